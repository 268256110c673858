/- Calls that are handed objects, which they use up. -/
import Derived.Test.YtaopaongpoecoaaAb28
set_option linter.unusedVariables false
set_option linter.unusedSimpArgs false
namespace Go.Proofs.Ytaopaongpoecoaa
open Go.RowKit
/-- What a function comes to, told by other names: f tells the new names. -/
def CanonT (n : Nat) (f : Nat → Option Nat) (d : DV) (T : Objs) (d' : DV) (os : Objs) : Prop :=
  Ren f d d' ∧ (∀ (k : Nat) ob', os[k]? = some (some ob') → ∃ o ob, f o = some (n + k) ∧ T[o]? = some (some ob) ∧ RenOb f ob ob') ∧
    (∀ a b x, f a = some x → f b = some x → a = b) ∧ (∀ a x, f a = some x → n ≤ x ∧ x < n + os.length)
theorem GCalls.canonT {E : Prg} {f : Nat} {args : List DV} {n : Nat} {R R' : DV → Objs → Prop} {T0 : Objs} (hn : T0.length = n) (h : GCalls E f args T0 R)
    (hR : ∀ r T', R r T' → ∃ g r' os, CanonT n g r T' r' os ∧ R' r' (List.replicate n none ++ os)) : GCalls E f args T0 R' := by
  intro G w vs h1 h2 h3 h4
  refine Calls.mono (h G w vs h1 h2 h3 h4) fun e w' ⟨v, r, T', G', a, hr, hl, hrel, hh, hf⟩ => ?_
  obtain ⟨g, r', os, ⟨c1, c2, c3, c4⟩, hR'⟩ := hR r T' hr
  open Classical in
  let G2 : Gh := { rd := G'.rd, pl := fun x => if x < n then G.pl x else if hx : ∃ o, g o = some x then G'.pl (Classical.choose hx) else none }
  have hpl : ∀ o o' p, g o = some o' → G'.pl o = some p → G2.pl o' = some p := fun o o' p ho hp => by
    have h5 := (c4 o o' ho).1
    show (if o' < n then G.pl o' else if hx : ∃ o, g o = some o' then G'.pl (Classical.choose hx) else none) = some p
    rw [if_neg (by omega), dif_pos ⟨o, ho⟩]
    have := Classical.choose_spec (⟨o, ho⟩ : ∃ o, g o = some o')
    rw [c3 _ _ _ this ho]; exact hp
  have hpl2 : ∀ x p, G2.pl x = some p → (x < n ∧ G.pl x = some p) ∨ (n ≤ x ∧ x < n + os.length ∧ ∃ o, g o = some x ∧ G'.pl o = some p) := fun x p hx => by
    change (if x < n then G.pl x else if hx : ∃ o, g o = some x then G'.pl (Classical.choose hx) else none) = some p at hx
    by_cases hlt : x < n
    · rw [if_pos hlt] at hx; exact .inl ⟨hlt, hx⟩
    · rw [if_neg hlt] at hx
      by_cases he : ∃ o, g o = some x
      · rw [dif_pos he] at hx
        have hs := Classical.choose_spec he
        exact .inr ⟨by omega, (c4 _ _ hs).2, _, hs, hx⟩
      · rw [dif_neg he] at hx; cases hx
  have hT : ∀ (k : Nat) ob, (List.replicate n (none : Option Ob) ++ os)[k]? = some (some ob) → n ≤ k ∧ os[k - n]? = some (some ob) := fun k ob hk => by
    by_cases hlt : k < n
    · rw [List.getElem?_append_left (by simpa using hlt)] at hk; exact (getElem?_rep hk).elim
    · rw [List.getElem?_append_right (by simpa using hlt)] at hk
      exact ⟨by omega, by simpa using hk⟩
  have hob : ∀ (k : Nat) ob', (List.replicate n (none : Option Ob) ++ os)[k]? = some (some ob') → ∃ o ob, g o = some k ∧ T'[o]? = some (some ob) ∧ RenOb g ob ob' := fun k ob' hk => by
    obtain ⟨h5, h6⟩ := hT k ob' hk
    obtain ⟨o, ob, h7, h8, h9⟩ := c2 _ _ h6
    rw [show n + (k - n) = k by omega] at h7
    exact ⟨o, ob, h7, h8, h9⟩
  have hlive : ∀ (k : Nat) ob' p, (List.replicate n (none : Option Ob) ++ os)[k]? = some (some ob') → G2.pl k = some p → ∃ o ob, g o = some k ∧ T'[o]? = some (some ob) ∧ RenOb g ob ob' ∧ G'.pl o = some p := fun k ob' p hk hp => by
    obtain ⟨o, ob, h5, h6, h7⟩ := hob k ob' hk
    obtain ⟨q, hq, _⟩ := hh.live o ob h6
    rw [hpl o k q h5 hq] at hp
    obtain rfl := Option.some.inj hp
    exact ⟨o, ob, h5, h6, h7, hq⟩
  refine ⟨v, r', _, G2, a, hR', by simp [hn], c1.rel (G := G') (G' := G2) (fun _ _ h => h) hpl hrel, ⟨?_, ?_, ?_, hh.rdv, ?_⟩, ⟨hf.os, hf.tape, hf.output, hf.size, hf.blk, hf.cell, hf.frz, ?_, hf.rdn, ⟨hf.le.rd, ?_⟩, hf.mko⟩⟩
  · intro k p hp
    rcases hpl2 k p hp with ⟨h5, _⟩ | ⟨_, h5, _⟩ <;> simp <;> omega
  · intro k ob' hk
    obtain ⟨o, ob, h5, h6, h7⟩ := hob k ob' hk
    obtain ⟨q, hq, hl⟩ := hh.live o ob h6
    refine ⟨q, hpl o k q h5 hq, ⟨hl.psz.trans h7.1, h7.2.1 ▸ hl.fits, fun row hrow => ?_, hl.there, fun i j row c v hi hj hv => ?_, hl.mko⟩⟩
    · obtain ⟨i, hi, he⟩ := List.getElem_of_mem hrow
      have hi2 : i < ob.rows.length := by rw [h7.2.1]; exact hi
      rw [← (h7.2.2 i ob.rows[i] row (List.getElem?_eq_getElem hi2) (by rw [List.getElem?_eq_getElem hi, he])).1]
      exact hl.size _ (List.getElem_mem hi2)
    · have hi2 : i < ob.rows.length := by rw [h7.2.1]; exact (List.getElem?_eq_some_iff.1 hi).1
      obtain ⟨h8, h9⟩ := h7.2.2 i ob.rows[i] row (List.getElem?_eq_getElem hi2) hi
      have hj2 : j < ob.rows[i].length := by rw [h8]; exact (List.getElem?_eq_some_iff.1 hj).1
      exact (h9 j _ c (List.getElem?_eq_getElem hj2) hj).rel (G := G') (G' := G2) (fun _ _ h => h) hpl (hl.holds i j ob.rows[i] ob.rows[i][j] v (List.getElem?_eq_getElem hi2) (List.getElem?_eq_getElem hj2) hv)
  · intro k k' x x' p p' m m' hk hk' hne hp hp' hm hm' e
    obtain ⟨o, ob, h5, h6, h7, h8⟩ := hlive k x p hk hp
    obtain ⟨o', ob', h5', h6', h7', h8'⟩ := hlive k' x' p' hk' hp'
    refine hh.sep o o' ob ob' p p' m m' h6 h6' (fun e2 => ?_) h8 h8' hm hm' e
    subst e2
    exact hne (Option.some.inj (h5.symm.trans h5'))
  · intro k x p m hk hp hm
    obtain ⟨o, ob, h5, h6, h7, h8⟩ := hlive k x p hk hp
    exact hh.rds o ob p m h6 h8 hm
  · intro k x p m hk hp hm
    obtain ⟨o, ob, h5, h6, h7, h8⟩ := hlive k x p hk hp
    exact hf.mine o ob p m h6 h8 hm
  · intro k p hp
    have hk := h2.pls k p hp
    rw [hn] at hk
    show (if k < n then G.pl k else _) = some p
    rw [if_pos hk]; exact hp

def goIdsC (T : Objs) : List Nat → (Objs → Prop) → Prop
  | [], k => k []
  | i :: l, k => bindO T[i]? fun x => bindO x fun ob => clOb ob ∧ goIdsC T l fun os => k (some ob :: os)
theorem goIdsC_spec {T : Objs} : ∀ {ids : List Nat} {K : Objs → Prop}, goIdsC T ids K → ∃ os, K os ∧ os.length = ids.length ∧ ∀ (k : Nat) (ob' : Ob), os[k]? = some (some ob') → ∃ o, ids[k]? = some o ∧ T[o]? = some (some ob') ∧ clOb ob'
  | [], K, h => ⟨[], h, rfl, by simp⟩
  | i :: l, K, h => by
    simp only [goIdsC] at h
    cases h1 : T[i]? with
    | none => rw [h1] at h; exact h.elim
    | some x =>
      rw [h1] at h
      cases x with
      | none => exact h.elim
      | some ob =>
        obtain ⟨h0, h⟩ := h
        obtain ⟨os, h2, h3, h4⟩ := goIdsC_spec h
        refine ⟨some ob :: os, h2, by simp [h3], fun k ob' hk => ?_⟩
        rcases k with _ | k
        · simp at hk; subst hk; exact ⟨i, rfl, h1, h0⟩
        · exact h4 k ob' (by simpa using hk)
/-- What a function comes to, told by its own names, from n on. -/
def retH (n : Nat) (d : DV) (T : Objs) (K : DV → Objs → Prop) : Prop := ndup (idsT d) ∧ clT d ∧ goIdsC T (idsT d) fun os => K (canT n (idsT d) d) os
theorem retH_spec {n : Nat} {d : DV} {T : Objs} {K : DV → Objs → Prop} (h : retH n d T K) : ∃ g r' os, CanonT n g d T r' os ∧ K r' os := by
  obtain ⟨hn, hc, hg⟩ := h
  rw [ndup_eq] at hn
  obtain ⟨os, h1, h2, h4⟩ := goIdsC_spec hg
  refine ⟨pick1 n (idsT d), _, os, ⟨renT (fun _ h => h) hc, fun k ob' hk => ?_, fun a b x ha hb => ?_, fun a x ha => ?_⟩, h1⟩
  · obtain ⟨o, h5, h6, h7⟩ := h4 k ob' hk
    have hm := List.mem_of_getElem? h5
    refine ⟨o, ob', ?_, h6, renOb h7⟩
    show (if o ∈ idsT d then some (n + pos o (idsT d)) else none) = some (n + k)
    rw [if_pos hm]
    have h8 := pos_get hm
    have : pos o (idsT d) = k := (List.getElem?_inj (pos_lt hm) hn).1 (h8.trans h5.symm)
    rw [this]
  · unfold pick1 at ha hb
    by_cases hma : a ∈ idsT d
    case neg => rw [if_neg hma] at ha; cases ha
    by_cases hmb : b ∈ idsT d
    case neg => rw [if_neg hmb] at hb; cases hb
    rw [if_pos hma] at ha
    rw [if_pos hmb] at hb
    have e : n + pos a (idsT d) = n + pos b (idsT d) := (Option.some.inj ha).trans (Option.some.inj hb).symm
    have h8 := pos_get hma
    have h9 := pos_get hmb
    rw [show pos a (idsT d) = pos b (idsT d) by omega, h9] at h8
    exact (Option.some.inj h8).symm
  · unfold pick1 at ha
    split at ha
    · rename_i hm
      have := pos_lt hm
      obtain rfl := Option.some.inj ha
      exact ⟨by omega, by omega⟩
    · cases ha
/-- A function that is handed objects at n, n + 1, ..: what it comes to; it uses them up. -/
def HCalls (E : Prg) (f : Nat) (args : Nat → List DV) (obs : List Ob) (res : Nat → DV × Objs) : Prop :=
  ∀ n, GCalls E f (args n) (List.replicate n none ++ obs.map some) fun r T' => r = (res (n + obs.length)).1 ∧ T' = List.replicate (n + obs.length) none ++ (res (n + obs.length)).2
theorem HCalls.by_fn {E : Prg} {F : FTab} (hF : FOk E F) {f : Nat} {ann : List Ann} {rf : RFn} {args : Nat → List DV} {obs : List Ob} {res : Nat → DV × Objs} (hc : compFn E.P ann f = some rf) (hargs : ∀ n, (args n).length ≤ rf.n)
    (h : ∀ n, rf.code.wp E F rf.n (finQ rf.res fun d T' => n + obs.length ≤ T'.length ∧ retH (n + obs.length) d T' fun d' os => wkT d' (res (n + obs.length)).1 ∧ os = (res (n + obs.length)).2) ⟨initEnv 0 (args n), List.replicate n none ++ obs.map some⟩) : HCalls E f args obs res := by
  intro n
  have hlen : (List.replicate n (none : Option Ob) ++ obs.map some).length = n + obs.length := by simp
  have h1 : GCalls E f (args n) (List.replicate n none ++ obs.map some) fun d T' => retH (n + obs.length) d T' fun d' os => wkT d' (res (n + obs.length)).1 ∧ os = (res (n + obs.length)).2 := by
    refine GCalls.of_fn hF hc (hargs n) ?_
    refine RC.wp_mono _ (h n) fun e st hh => ?_
    cases e with
    | normal =>
      simp only [finQ] at hh ⊢
      split at hh
      · exact ⟨by rw [hlen]; exact hh.1, hh.2⟩
      · exact hh.elim
    | ret =>
      simp only [finQ] at hh ⊢
      split at hh
      · exact ⟨by rw [hlen]; exact hh.1, hh.2⟩
      · exact hh.elim
    | _ => exact hh
  have h2 : GCalls E f (args n) (List.replicate n none ++ obs.map some) fun d T' => wkT d (res (n + obs.length)).1 ∧ T' = List.replicate (n + obs.length) none ++ (res (n + obs.length)).2 :=
    GCalls.canonT hlen h1 fun r T' hr => by
      obtain ⟨g, r', os, hc, hk1, hk2⟩ := retH_spec hr
      exact ⟨g, r', os, hc, hk1, by rw [hk2]⟩
  intro G w vs g1 g2 g3 g4
  refine Calls.mono (h2 G w vs g1 g2 g3 g4) fun e w' ⟨v, r, T', G', a, ⟨hr, hT⟩, hl, hrel, hh, hf⟩ => ?_
  exact ⟨v, _, T', G', a, ⟨rfl, hT⟩, hl, wkT_rel hr hrel, hh, hf⟩
def killL : List Nat → Objs → Objs
  | [], T => T
  | i :: l, T => killL l (T.set i none)
theorem killL_len : ∀ (l : List Nat) (T : Objs), (killL l T).length = T.length
  | [], T => rfl
  | i :: l, T => by simp [killL, killL_len l]
theorem killL_get : ∀ (l : List Nat) (T : Objs) (k : Nat) (ob : Ob), (killL l T)[k]? = some (some ob) → k ∉ l ∧ T[k]? = some (some ob)
  | [], T, k, ob, h => ⟨by simp, h⟩
  | i :: l, T, k, ob, h => by
    obtain ⟨h1, h2⟩ := killL_get l _ k ob h
    rw [getElem?_set] at h2
    by_cases e : i = k
    · rw [if_pos e] at h2
      split at h2
      · simp at h2
      · cases h2
    · rw [if_neg e] at h2
      exact ⟨by simp [h1]; exact fun h => e h.symm, h2⟩
def onlyIds (ids : List Nat) (T : Objs) : Objs := (List.range T.length).map fun k => if k ∈ ids then (T[k]?).getD none else none
theorem onlyIds_len (ids : List Nat) (T : Objs) : (onlyIds ids T).length = T.length := by simp [onlyIds]
theorem onlyIds_get {ids : List Nat} {T : Objs} {k : Nat} {ob : Ob} : (onlyIds ids T)[k]? = some (some ob) ↔ k ∈ ids ∧ T[k]? = some (some ob) := by
  by_cases hk : k < T.length
  · simp only [onlyIds, List.getElem?_map, List.getElem?_range hk, Option.map_some, Option.some.injEq, List.getElem?_eq_getElem hk, Option.getD_some]
    by_cases hm : k ∈ ids
    · simp [hm]
    · simp [hm]
  · rw [List.getElem?_eq_none (by rw [onlyIds_len]; omega), List.getElem?_eq_none (by omega)]
    simp
theorem CallK.hand {E : Prg} {f : Nat} {args : List DV} {T : Objs} {K : DV → Objs → Prop} (ids : List Nat) (obs : List Ob) (hnd : ids.Nodup) (hlen : obs.length = ids.length)
    (hT : ∀ (i : Nat) o ob, ids[i]? = some o → obs[i]? = some ob → T[o]? = some (some ob)) (hids : ∀ d ∈ args, ∀ o ∈ idsT d, o ∈ ids) {args0 : Nat → List DV} (hargs : args.map (canT T.length ids) = args0 T.length) {res : Nat → DV × Objs}
    (h : HCalls E f args0 obs res) (hK : K (res (T.length + ids.length)).1 (killL ids T ++ (List.replicate ids.length none ++ (res (T.length + ids.length)).2))) : CallK E f args T K := by
  have h0 := h T.length
  rw [← hargs, hlen] at h0
  refine ⟨onlyIds ids T, fun r T' => r = (res (T.length + ids.length)).1 ∧ T' = List.replicate (T.length + ids.length) none ++ (res (T.length + ids.length)).2, onlyIds_len _ _, fun k ob hk => (onlyIds_get.1 hk).2, ?_, ?_⟩
  · intro G w vs g1 g2 g3 g4
    let G0 : Gh := { rd := G.rd, pl := fun x => if x < T.length then G.pl x else match ids[x - T.length]? with | some o => G.pl o | none => none }
    have hle : G.le G0 := ⟨fun _ _ h => h, fun k p hp => by
      have := g2.pls k p hp
      rw [onlyIds_len] at this
      simp only [G0]
      rw [if_pos this]; exact hp⟩
    have hpl : ∀ o p, o ∈ ids → G.pl o = some p → G0.pl (T.length + pos o ids) = some p := fun o p ho hp => by
      simp only [G0]
      rw [if_neg (by omega), Nat.add_sub_cancel_left, pos_get ho]
      exact hp
    have hnew : ∀ (k : Nat) (ob : Ob), (List.replicate T.length none ++ obs.map some)[k]? = some (some ob) → ∃ o, ids[k - T.length]? = some o ∧ T.length ≤ k ∧ (onlyIds ids T)[o]? = some (some ob) ∧ G0.pl k = G.pl o := fun k ob hk => by
      by_cases hlt : k < T.length
      · rw [List.getElem?_append_left (by simpa using hlt)] at hk; exact (getElem?_rep hk).elim
      · rw [List.getElem?_append_right (by simpa using hlt)] at hk
        simp only [List.length_replicate, List.getElem?_map, Option.map_eq_some_iff, Option.some.injEq] at hk
        obtain ⟨ob2, hk, rfl⟩ := hk
        have hlt2 : k - T.length < ids.length := by rw [← hlen]; exact (List.getElem?_eq_some_iff.1 hk).1
        refine ⟨ids[k - T.length], List.getElem?_eq_getElem hlt2, by omega, onlyIds_get.2 ⟨List.getElem_mem _, hT _ _ _ (List.getElem?_eq_getElem hlt2) hk⟩, ?_⟩
        simp only [G0]
        rw [if_neg hlt, List.getElem?_eq_getElem hlt2]
    have hH : Heap G0 (List.replicate T.length none ++ obs.map some) w := by
      refine ⟨fun k p hp => ?_, fun k ob hob => ?_, ?_, g2.rdv, ?_⟩
      · simp only [G0] at hp
        simp only [List.length_append, List.length_replicate, List.length_map, hlen]
        split at hp
        · omega
        · split at hp
          · rename_i o ho
            have := (List.getElem?_eq_some_iff.1 ho).1
            omega
          · cases hp
      · obtain ⟨o, h1, h2, h3, h4⟩ := hnew k ob hob
        obtain ⟨p, hp, hl⟩ := g2.live o ob h3
        exact ⟨p, h4.trans hp, hl.mono hle (fun _ _ => rfl) (fun _ _ => rfl) (fun _ h => h)⟩
      · intro k k' r r' p p' i i' h1 h2 hne hp hp' hi hi'
        obtain ⟨o, a1, a2, a3, a4⟩ := hnew k r h1
        obtain ⟨o', b1, b2, b3, b4⟩ := hnew k' r' h2
        refine g2.sep o o' r r' p p' i i' a3 b3 (fun e => ?_) (a4.symm.trans hp) (b4.symm.trans hp') hi hi'
        subst e
        have := nodup_idx hnd a1 b1
        omega
      · intro k r p i hk hp hi
        obtain ⟨o, a1, a2, a3, a4⟩ := hnew k r hk
        exact g2.rds o r p i a3 (a4.symm.trans hp) hi
    have hsub : ∀ x, cellsOf G0 (List.replicate T.length none ++ obs.map some) x → cellsOf G (onlyIds ids T) x := fun x ⟨k, ob, p, m, h1, h2, h3, h4⟩ => by
      obtain ⟨o, a1, a2, a3, a4⟩ := hnew k ob h1
      exact ⟨o, ob, p, m, a3, a4.symm.trans h2, h3, h4⟩
    refine Calls.mono (h0 G0 w vs (fun g row hg => (g1 g row hg).mono hle) hH (by simpa using g3) (fun i d hd => ?_)) fun e w' ⟨v, r, T', G', a, hr, hl, hrel, hh, hf⟩ => ?_
    · rw [List.getElem?_map, Option.map_eq_some_iff] at hd
      obtain ⟨d0, hd0, rfl⟩ := hd
      exact canT_rel hle hpl (fun o ho => hids d0 (List.mem_of_getElem? hd0) o ho) (g4 i d0 hd0)
    · refine ⟨v, r, T', G', a, hr, by rw [onlyIds_len]; rw [hr.2]; simp; omega, hrel, hh, ⟨hf.os, hf.tape, hf.output, hf.size, fun b hb hn => hf.blk b hb fun o ho => hn o (hsub _ ho), fun x hx hn => hf.cell x hx fun ho => hn (hsub _ ho),
        fun x v hx hn => hf.frz x v hx fun ho => hn (hsub _ ho), fun k ob p m h1 h2 h3 => ?_, fun x v hx => ?_, hle.trans hf.le, hf.mko⟩⟩
      · rcases hf.mine k ob p m h1 h2 h3 with h4 | h4
        · exact .inl h4
        · exact .inr (hsub _ h4)
      · rcases hf.rdn x v hx with h4 | h4 | h4
        · exact .inl h4
        · exact .inr (.inl h4)
        · exact .inr (.inr (hsub _ h4))
  · rintro r T1' ⟨rfl, rfl⟩ _
    refine ⟨_, ⟨by simp [killL_len]; omega, onlyIds_len _ _, fun k ob hk => (onlyIds_get.1 hk).2, fun k ob ob' h1 h2 => ?_, fun k ob' hlt _ h2 => ?_, fun k ob' hge h2 => ?_⟩, hK⟩
    · obtain ⟨h3, h4⟩ := onlyIds_get.1 h1
      have hlt := (List.getElem?_eq_some_iff.1 h4).1
      rw [List.getElem?_append_left (by rw [killL_len]; exact hlt)] at h2
      exact absurd h3 (killL_get _ _ _ _ h2).1
    · rw [List.getElem?_append_left (by rw [killL_len]; exact hlt)] at h2
      exact .inl (killL_get _ _ _ _ h2).2
    · rw [List.getElem?_append_right (by rw [killL_len]; exact hge), killL_len] at h2
      rw [← List.replicate_append_replicate, List.append_assoc, List.getElem?_append_right (by simpa using hge)]
      simpa using h2
/-- What is known of an own slice's object. -/
def isOwn (k : IntKind) (n : Nat) : Option (Option Ob) → Prop
  | some (some (.arr sz rows)) => sz = 1 ∧ rows = intRows k (ints rows) ∧ rows.length = n ∧ inK k (ints rows)
  | _ => False
def objInts : Option (Option Ob) → List Int
  | some (some (.arr _ rows)) => ints rows
  | _ => []
theorem isOwn_inv {k : IntKind} {n : Nat} {x : Option (Option Ob)} (h : isOwn k n x) : x = some (some (.arr 1 (intRows k (objInts x)))) ∧ (objInts x).length = n ∧ inK k (objInts x) := by
  unfold isOwn at h
  split at h
  · obtain ⟨rfl, h1, h2, h3⟩ := h
    refine ⟨by simp only [objInts]; rw [← h1], ?_, h3⟩
    simp only [objInts]
    rw [← h2]; simp [ints]
  · exact h.elim
theorem isOwn_arr (k : IntKind) (n : Nat) (l : List Int) : isOwn k n (some (some (.arr 1 (intRows k l)))) = (l.length = n ∧ inK k l) := by simp [isOwn, ints_intRows, intRows_length]
theorem objInts_arr (k : IntKind) (sz : Nat) (l : List Int) : objInts (some (some (.arr sz (intRows k l)))) = l := by simp [objInts, ints_intRows]
theorem goIdsC_nil (T : Objs) (k : Objs → Prop) : goIdsC T [] k = k [] := nrfl _
theorem goIdsC_cons (T : Objs) (i : Nat) (l : List Nat) (k : Objs → Prop) : goIdsC T (i :: l) k = (bindO T[i]? fun x => bindO x fun ob => clOb ob ∧ goIdsC T l fun os => k (some ob :: os)) := nrfl _
theorem retH_eq (n : Nat) (d : DV) (T : Objs) (K : DV → Objs → Prop) : retH n d T K = (ndup (idsT d) ∧ clT d ∧ goIdsC T (idsT d) fun os => K (canT n (idsT d) d) os) := nrfl _
theorem killL_nil (T : Objs) : killL [] T = T := nrfl _
theorem killL_cons (i : Nat) (l : List Nat) (T : Objs) : killL (i :: l) T = killL l (T.set i none) := nrfl _
/-- A nil slice is an own one without a cell. -/
theorem PCalls.nil_own {E : Prg} {f : Nat} {args : List DV} {s sz : Nat} (h : PCalls E f args fun n r os => r = .sl s [] .nil ∧ os = []) : PCalls E f args fun n r os => r = .own n 0 0 ∧ os = [some (.arr sz [])] := by
  intro n G w vs g1 g2 g3 g4
  refine Calls.mono (h n G w vs g1 g2 g3 g4) fun e w' ⟨v, r, T', G', a, ⟨os, hT, hr, hos⟩, hl, hrel, hh, hf⟩ => ?_
  subst hr hos
  rw [List.append_nil] at hT
  subst hT
  have hr : RelG E ⟨w, G, cellsOf G (List.replicate n none), 1⟩ G' ⟨[(0, .sl s [] .nil)], List.replicate n none⟩ ⟨#[v], []⟩ w' := by
    refine ⟨fun t => ?_, rfl, rfl, hh, hf.ctx, fun g row hg => (g1 g row hg).mono hf.le⟩
    by_cases e : t = 0
    · subst e; exact hrel
    · have : St.get ⟨[(0, .sl s [] .nil)], List.replicate n none⟩ t = .undef := by
        simp only [St.get, St.look]
        rw [if_neg (fun h => e h.symm)]
      rw [this]; exact .undef _
  have h2 := hr.newEmpty sz
  refine ⟨v, .own n 0 0, List.replicate n none ++ [some (.arr sz [])], G'.more n ⟨0, 0, sz, 0⟩, a, ⟨_, rfl, rfl, rfl⟩, by simp, ?_, ?_, ?_⟩
  · cases hrel with
    | sl _ _ _ p len cap b' o vals h5 h6 h7 h8 _ _ _ =>
      have hl : len = 0 := by simpa using h5
      subst hl
      have hc0 : cap = 0 := h6.2
      subst hc0
      exact .own _ 0 0 ⟨0, 0, sz, 0⟩ p 0 (by simp [Gh.more]) rfl (Nat.le_refl _) (fun h => by omega)
  · have := h2.heap
    simpa using this
  · have := h2.frm.ctx (m := 0)
    simpa using this
/-- What a variable holds. -/
def ldV (ag : Bool) (sz : Nat) (T : Objs) : DV → Option DV
  | .ptr o i j => (T[o]?).bind fun x => x.bind fun ob => (ob.rows[i]?).bind fun row => rowAt ag sz row j
  | .rp row j => rowAt ag sz row j
  | _ => none
theorem resC2 (st : St) (i : Nat) (ag : Bool) (sz : Nat) : Res.ev st (.c i ag sz) = ldV ag sz st.objs (st.get i) := by
  simp only [Res.ev, ldV]
  generalize st.get i = d
  cases d <;> try rfl
  rename_i o r j
  simp only
  cases st.objs[o]? with
  | none => rfl
  | some x =>
    cases x with
    | none => rfl
    | some ob =>
      simp only [Option.bind_some]
      cases ob.rows[r]? <;> rfl
theorem ldV_ptr (ag : Bool) (sz : Nat) (T : Objs) (o i j : Nat) : ldV ag sz T (.ptr o i j) = (T[o]?).bind fun x => x.bind fun ob => (ob.rows[i]?).bind fun row => rowAt ag sz row j := nrfl _
theorem ldV_rp (ag : Bool) (sz : Nat) (T : Objs) (row : List DV) (j : Nat) : ldV ag sz T (.rp row j) = rowAt ag sz row j := nrfl _
/-- What a function comes to, its own slices let go of. -/
def ownsT : DV → List Nat
  | .tup cs => cs.flatMap ownIds
  | d => ownIds d
def frzK (st : St) (K : DV → Objs → Prop) : Prop := K (st.get 0) st.objs
def frzR (d : DV) (T : Objs) (K : DV → Objs → Prop) : Prop := frzK (St.freezes (ownsT d) ⟨[(0, d)], T⟩) K
theorem frzR_eq (d : DV) (T : Objs) (K : DV → Objs → Prop) : frzR d T K = frzK (St.freezes (ownsT d) ⟨[(0, d)], T⟩) K := nrfl _
theorem frzK_mk (d : DV) (T : Objs) (K : DV → Objs → Prop) : frzK ⟨[(0, d)], T⟩ K = K d T := nrfl _
theorem ownsT_tup (cs : List DV) : ownsT (.tup cs) = cs.flatMap ownIds := nrfl _
theorem ownsT_own (o off n : Nat) : ownsT (.own o off n) = [o] := nrfl _
theorem ownsT_agg (cs : List DV) : ownsT (.agg cs) = ownIds (.agg cs) := nrfl _
theorem ownsT_sl (sz : Nat) (rows : List (List DV)) (k : SK) : ownsT (.sl sz rows k) = [] := nrfl _
theorem ownIds_int (k : IntKind) (n : Int) : ownIds (.int k n) = [] := nrfl _
theorem ownIds_bool (b : Bool) : ownIds (.bool b) = [] := nrfl _
theorem ownIds_str (b : List UInt8) : ownIds (.str b) = [] := nrfl _
theorem ownIds_ptr (o i j : Nat) : ownIds (.ptr o i j) = [] := nrfl _
theorem freeze_len (o : Nat) (st : St) : (st.freeze o).objs.length = st.objs.length := by
  unfold St.freeze
  split <;> simp
theorem freezes_len : ∀ (l : List Nat) (st : St), (St.freezes l st).objs.length = st.objs.length
  | [], st => rfl
  | o :: l, st => by rw [St.freezes, freezes_len l, freeze_len]
theorem GCalls.frz {E : Prg} {f : Nat} {args : List DV} {T : Objs} {R : DV → Objs → Prop} (h : GCalls E f args T R) : GCalls E f args T fun r T' => ∃ d T0, R d T0 ∧ r = (St.freezes (ownsT d) ⟨[(0, d)], T0⟩).get 0 ∧ T' = (St.freezes (ownsT d) ⟨[(0, d)], T0⟩).objs := by
  intro G w vs g1 g2 g3 g4
  refine Calls.mono (h G w vs g1 g2 g3 g4) fun e w' ⟨v, r, T', G', a, hR, hl, hrel, hh, hf⟩ => ?_
  have hr : RelSt E ⟨w, G, cellsOf G T, 1⟩ ⟨[(0, r)], T'⟩ ⟨#[v], []⟩ w' := by
    refine ⟨G', fun t => ?_, rfl, rfl, hh, hf.ctx, fun g row hg => (g1 g row hg).mono hf.le⟩
    by_cases e : t = 0
    · subst e; exact hrel
    · have : St.get ⟨[(0, r)], T'⟩ t = .undef := by
        simp only [St.get, St.look]
        rw [if_neg (fun h => e h.symm)]
      rw [this]; exact .undef _
  obtain ⟨G2, h2⟩ := hr.freezes (ownsT r)
  refine ⟨v, _, _, G2, a, ⟨r, T', hR, rfl, rfl⟩, by rw [freezes_len]; exact hl, h2.env 0, h2.heap, h2.frm.ctx⟩
theorem HCalls.by_fnF {E : Prg} {F : FTab} (hF : FOk E F) {f : Nat} {ann : List Ann} {rf : RFn} {args : Nat → List DV} {obs : List Ob} {res : Nat → DV × Objs} (hc : compFn E.P ann f = some rf) (hargs : ∀ n, (args n).length ≤ rf.n)
    (h : ∀ n, rf.code.wp E F rf.n (finQ rf.res fun d T' => n + obs.length ≤ T'.length ∧ frzR d T' fun d T' => retH (n + obs.length) d T' fun d' os => wkT d' (res (n + obs.length)).1 ∧ os = (res (n + obs.length)).2) ⟨initEnv 0 (args n), List.replicate n none ++ obs.map some⟩) : HCalls E f args obs res := by
  intro n
  have hlen : (List.replicate n (none : Option Ob) ++ obs.map some).length = n + obs.length := by simp
  have h1 : GCalls E f (args n) (List.replicate n none ++ obs.map some) fun d T' => frzR d T' fun d T' => retH (n + obs.length) d T' fun d' os => wkT d' (res (n + obs.length)).1 ∧ os = (res (n + obs.length)).2 := by
    refine GCalls.of_fn hF hc (hargs n) ?_
    refine RC.wp_mono _ (h n) fun e st hh => ?_
    cases e with
    | normal =>
      simp only [finQ] at hh ⊢
      split at hh
      · exact ⟨by rw [hlen]; exact hh.1, hh.2⟩
      · exact hh.elim
    | ret =>
      simp only [finQ] at hh ⊢
      split at hh
      · exact ⟨by rw [hlen]; exact hh.1, hh.2⟩
      · exact hh.elim
    | _ => exact hh
  have h2 : GCalls E f (args n) (List.replicate n none ++ obs.map some) fun d T' => wkT d (res (n + obs.length)).1 ∧ T' = List.replicate (n + obs.length) none ++ (res (n + obs.length)).2 :=
    GCalls.canonT hlen h1.frz fun r T' ⟨d, T0, hr, hd, hT⟩ => by
      subst hd hT
      rw [frzR_eq] at hr
      unfold frzK at hr
      obtain ⟨g, r', os, hc, hk1, hk2⟩ := retH_spec hr
      exact ⟨g, r', os, hc, hk1, by rw [hk2]⟩
  intro G w vs g1 g2 g3 g4
  refine Calls.mono (h2 G w vs g1 g2 g3 g4) fun e w' ⟨v, r, T', G', a, ⟨hr, hT⟩, hl, hrel, hh, hf⟩ => ?_
  exact ⟨v, _, T', G', a, ⟨rfl, hT⟩, hl, wkT_rel hr hrel, hh, hf⟩
/-- A function that is handed nothing: as one that is handed no objects. -/
theorem PCalls.by_fnF {E : Prg} {F : FTab} (hF : FOk E F) {f : Nat} {ann : List Ann} {rf : RFn} {args : List DV} {res : Nat → DV × Objs} (hc : compFn E.P ann f = some rf) (hargs : args.length ≤ rf.n)
    (h : ∀ n, rf.code.wp E F rf.n (finQ rf.res fun d T' => n ≤ T'.length ∧ frzR d T' fun d T' => retH n d T' fun d' os => wkT d' (res n).1 ∧ os = (res n).2) ⟨initEnv 0 args, List.replicate n none⟩) : PCalls E f args fun n r os => r = (res n).1 ∧ os = (res n).2 := by
  intro n
  have h1 : GCalls E f args (List.replicate n none) fun r T' => r = (res n).1 ∧ T' = List.replicate n none ++ (res n).2 := by
    have := HCalls.by_fnF (args := fun _ => args) (obs := []) (res := res) hF hc (fun _ => hargs) (fun n => by simpa using h n) n
    simpa using this
  exact h1.mono fun r T' ⟨h2, h3⟩ => ⟨_, h3, h2, rfl⟩
/-- Two values name no object in common. -/
def idNe (d d' : DV) : Prop := ∀ o, DV.id d = some o → DV.id d' ≠ some o
theorem clearOf_1 {E : Prg} {st : St} {op : ROp} {x p : Opd} (h : op.opds = [x]) : clearOf E st op p = idNe (Opd.ev E st x) (Opd.ev E st p) := by simp [clearOf, h, idNe]
theorem clearOf_load (E : Prg) (st : St) (ag : Bool) (sz : Nat) (x p : Opd) : clearOf E st (.load ag sz x) p = idNe (Opd.ev E st x) (Opd.ev E st p) := clearOf_1 rfl
theorem clearOf_b2s (E : Prg) (st : St) (x p : Opd) : clearOf E st (.conv .b2s x) p = idNe (Opd.ev E st x) (Opd.ev E st p) := clearOf_1 rfl
theorem clearOf_iaddr (E : Prg) (st : St) (sz : Nat) (x y p : Opd) : clearOf E st (.iaddr sz x y) p = (idNe (Opd.ev E st x) (Opd.ev E st p) ∧ idNe (Opd.ev E st y) (Opd.ev E st p)) := by simp [clearOf, ROp.opds, idNe]
theorem idNe_pp (o i j o' i' j' : Nat) : idNe (.ptr o i j) (.ptr o' i' j') = ¬ o = o' := by simp [idNe, DV.id]; exact ⟨fun h e => h e.symm, fun h e => h e.symm⟩
theorem idNe_po (o i j o' i' j' : Nat) : idNe (.ptr o i j) (.own o' i' j') = ¬ o = o' := by simp [idNe, DV.id]; exact ⟨fun h e => h e.symm, fun h e => h e.symm⟩
theorem idNe_op (o i j o' i' j' : Nat) : idNe (.own o i j) (.ptr o' i' j') = ¬ o = o' := by simp [idNe, DV.id]; exact ⟨fun h e => h e.symm, fun h e => h e.symm⟩
theorem idNe_oo (o i j o' i' j' : Nat) : idNe (.own o i j) (.own o' i' j') = ¬ o = o' := by simp [idNe, DV.id]; exact ⟨fun h e => h e.symm, fun h e => h e.symm⟩
theorem idNe_sl (sz : Nat) (rows : List (List DV)) (k : SK) (d : DV) : idNe (.sl sz rows k) d = True := by simp [idNe, DV.id]
theorem idNe_rp (row : List DV) (j : Nat) (d : DV) : idNe (.rp row j) d = True := by simp [idNe, DV.id]
theorem idNe_int (k : IntKind) (n : Int) (d : DV) : idNe (.int k n) d = True := by simp [idNe, DV.id]
theorem idNe_sl2 (sz : Nat) (rows : List (List DV)) (k : SK) (d : DV) : idNe d (.sl sz rows k) = True := by simp [idNe, DV.id]
theorem vcB3 : type_of% (And.intro @frzR_eq <| And.intro @frzK_mk <| And.intro @ownsT_tup <| And.intro @ownsT_own <| And.intro @ownsT_agg <| And.intro @ownsT_sl <| And.intro @ownIds_int <| And.intro @ownIds_bool <| And.intro @ownIds_str <| @ownIds_ptr) :=
  And.intro @frzR_eq <| And.intro @frzK_mk <| And.intro @ownsT_tup <| And.intro @ownsT_own <| And.intro @ownsT_agg <| And.intro @ownsT_sl <| And.intro @ownIds_int <| And.intro @ownIds_bool <| And.intro @ownIds_str <| @ownIds_ptr
theorem vcB2 : type_of% (And.intro @clearOf_load <| And.intro @clearOf_b2s <| And.intro @clearOf_iaddr <| And.intro @idNe_pp <| And.intro @idNe_po <| And.intro @idNe_op <| And.intro @idNe_oo <| And.intro @idNe_sl <| And.intro @idNe_rp <| And.intro @idNe_int <| @idNe_sl2) :=
  And.intro @clearOf_load <| And.intro @clearOf_b2s <| And.intro @clearOf_iaddr <| And.intro @idNe_pp <| And.intro @idNe_po <| And.intro @idNe_op <| And.intro @idNe_oo <| And.intro @idNe_sl <| And.intro @idNe_rp <| And.intro @idNe_int <| @idNe_sl2
theorem vcB1 : type_of% (And.intro @resC2 <| And.intro @ldV_ptr <| And.intro @ldV_rp <| And.intro @isOwn_arr <| And.intro @objInts_arr <| And.intro @goIdsC_nil <| And.intro @goIdsC_cons <| And.intro @retH_eq <| And.intro @killL_nil <| @killL_cons) :=
  And.intro @resC2 <| And.intro @ldV_ptr <| And.intro @ldV_rp <| And.intro @isOwn_arr <| And.intro @objInts_arr <| And.intro @goIdsC_nil <| And.intro @goIdsC_cons <| And.intro @retH_eq <| And.intro @killL_nil <| @killL_cons
end Go.Proofs.Ytaopaongpoecoaa
