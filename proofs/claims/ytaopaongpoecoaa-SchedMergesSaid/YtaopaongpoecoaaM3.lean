/- Texts Ab29, Ab30, Ab31, Ab32, Ab33, Ab34, Ab35 in one. -/
import Derived.Test.YtaopaongpoecoaaM2
section
/- Calls that are handed objects, which they use up. -/
set_option linter.unusedVariables false
set_option linter.unusedSimpArgs false
namespace Go.Proofs.Ytaopaongpoecoaa
open Go.RowKit
/-- What a function comes to, told by other names: f tells the new names. -/
def CanonT (n : Nat) (f : Nat → Option Nat) (d : DV) (T : Objs) (d' : DV) (os : Objs) : Prop :=
  Ren f d d' ∧ (∀ (k : Nat) ob', os[k]? = some (some ob') → ∃ o ob, f o = some (n + k) ∧ T[o]? = some (some ob) ∧ RenOb f ob ob') ∧
    (∀ a b x, f a = some x → f b = some x → a = b) ∧ (∀ a x, f a = some x → n ≤ x ∧ x < n + os.length)
theorem GCalls.canonT {E : Prg} {f : Nat} {args : List DV} {n : Nat} {R R' : DV → Objs → Prop} {T0 : Objs} (hn : T0.length = n) (h : GCalls E f args T0 R)
    (hR : ∀ r T', R r T' → ∃ g r' os, CanonT n g r T' r' os ∧ R' r' (List.replicate n none ++ os)) : GCalls E f args T0 R' := by
  intro G w vs h1 h2 h3 h4
  refine Calls.mono (h G w vs h1 h2 h3 h4) fun e w' ⟨v, r, T', G', a, hr, hl, hrel, hh, hf⟩ => ?_
  obtain ⟨g, r', os, ⟨c1, c2, c3, c4⟩, hR'⟩ := hR r T' hr
  open Classical in
  let G2 : Gh := { rd := G'.rd, pl := fun x => if x < n then G.pl x else if hx : ∃ o, g o = some x then G'.pl (Classical.choose hx) else none }
  have hpl : ∀ o o' p, g o = some o' → G'.pl o = some p → G2.pl o' = some p := fun o o' p ho hp => by
    have h5 := (c4 o o' ho).1
    show (if o' < n then G.pl o' else if hx : ∃ o, g o = some o' then G'.pl (Classical.choose hx) else none) = some p
    rw [if_neg (by omega), dif_pos ⟨o, ho⟩]
    have := Classical.choose_spec (⟨o, ho⟩ : ∃ o, g o = some o')
    rw [c3 _ _ _ this ho]; exact hp
  have hpl2 : ∀ x p, G2.pl x = some p → (x < n ∧ G.pl x = some p) ∨ (n ≤ x ∧ x < n + os.length ∧ ∃ o, g o = some x ∧ G'.pl o = some p) := fun x p hx => by
    change (if x < n then G.pl x else if hx : ∃ o, g o = some x then G'.pl (Classical.choose hx) else none) = some p at hx
    by_cases hlt : x < n
    · rw [if_pos hlt] at hx; exact .inl ⟨hlt, hx⟩
    · rw [if_neg hlt] at hx
      by_cases he : ∃ o, g o = some x
      · rw [dif_pos he] at hx
        have hs := Classical.choose_spec he
        exact .inr ⟨by omega, (c4 _ _ hs).2, _, hs, hx⟩
      · rw [dif_neg he] at hx; cases hx
  have hT : ∀ (k : Nat) ob, (List.replicate n (none : Option Ob) ++ os)[k]? = some (some ob) → n ≤ k ∧ os[k - n]? = some (some ob) := fun k ob hk => by
    by_cases hlt : k < n
    · rw [List.getElem?_append_left (by simpa using hlt)] at hk; exact (getElem?_rep hk).elim
    · rw [List.getElem?_append_right (by simpa using hlt)] at hk
      exact ⟨by omega, by simpa using hk⟩
  have hob : ∀ (k : Nat) ob', (List.replicate n (none : Option Ob) ++ os)[k]? = some (some ob') → ∃ o ob, g o = some k ∧ T'[o]? = some (some ob) ∧ RenOb g ob ob' := fun k ob' hk => by
    obtain ⟨h5, h6⟩ := hT k ob' hk
    obtain ⟨o, ob, h7, h8, h9⟩ := c2 _ _ h6
    rw [show n + (k - n) = k by omega] at h7
    exact ⟨o, ob, h7, h8, h9⟩
  have hlive : ∀ (k : Nat) ob' p, (List.replicate n (none : Option Ob) ++ os)[k]? = some (some ob') → G2.pl k = some p → ∃ o ob, g o = some k ∧ T'[o]? = some (some ob) ∧ RenOb g ob ob' ∧ G'.pl o = some p := fun k ob' p hk hp => by
    obtain ⟨o, ob, h5, h6, h7⟩ := hob k ob' hk
    obtain ⟨q, hq, _⟩ := hh.live o ob h6
    rw [hpl o k q h5 hq] at hp
    obtain rfl := Option.some.inj hp
    exact ⟨o, ob, h5, h6, h7, hq⟩
  refine ⟨v, r', _, G2, a, hR', by simp [hn], c1.rel (G := G') (G' := G2) (fun _ _ h => h) hpl hrel, ⟨?_, ?_, ?_, hh.rdv, ?_⟩, ⟨hf.os, hf.tape, hf.output, hf.size, hf.blk, hf.cell, hf.frz, ?_, hf.rdn, ⟨hf.le.rd, ?_⟩, hf.mko⟩⟩
  · intro k p hp
    rcases hpl2 k p hp with ⟨h5, _⟩ | ⟨_, h5, _⟩ <;> simp <;> omega
  · intro k ob' hk
    obtain ⟨o, ob, h5, h6, h7⟩ := hob k ob' hk
    obtain ⟨q, hq, hl⟩ := hh.live o ob h6
    refine ⟨q, hpl o k q h5 hq, ⟨hl.psz.trans h7.1, h7.2.1 ▸ hl.fits, fun row hrow => ?_, hl.there, fun i j row c v hi hj hv => ?_, hl.mko⟩⟩
    · obtain ⟨i, hi, he⟩ := List.getElem_of_mem hrow
      have hi2 : i < ob.rows.length := by rw [h7.2.1]; exact hi
      rw [← (h7.2.2 i ob.rows[i] row (List.getElem?_eq_getElem hi2) (by rw [List.getElem?_eq_getElem hi, he])).1]
      exact hl.size _ (List.getElem_mem hi2)
    · have hi2 : i < ob.rows.length := by rw [h7.2.1]; exact (List.getElem?_eq_some_iff.1 hi).1
      obtain ⟨h8, h9⟩ := h7.2.2 i ob.rows[i] row (List.getElem?_eq_getElem hi2) hi
      have hj2 : j < ob.rows[i].length := by rw [h8]; exact (List.getElem?_eq_some_iff.1 hj).1
      exact (h9 j _ c (List.getElem?_eq_getElem hj2) hj).rel (G := G') (G' := G2) (fun _ _ h => h) hpl (hl.holds i j ob.rows[i] ob.rows[i][j] v (List.getElem?_eq_getElem hi2) (List.getElem?_eq_getElem hj2) hv)
  · intro k k' x x' p p' m m' hk hk' hne hp hp' hm hm' e
    obtain ⟨o, ob, h5, h6, h7, h8⟩ := hlive k x p hk hp
    obtain ⟨o', ob', h5', h6', h7', h8'⟩ := hlive k' x' p' hk' hp'
    refine hh.sep o o' ob ob' p p' m m' h6 h6' (fun e2 => ?_) h8 h8' hm hm' e
    subst e2
    exact hne (Option.some.inj (h5.symm.trans h5'))
  · intro k x p m hk hp hm
    obtain ⟨o, ob, h5, h6, h7, h8⟩ := hlive k x p hk hp
    exact hh.rds o ob p m h6 h8 hm
  · intro k x p m hk hp hm
    obtain ⟨o, ob, h5, h6, h7, h8⟩ := hlive k x p hk hp
    exact hf.mine o ob p m h6 h8 hm
  · intro k p hp
    have hk := h2.pls k p hp
    rw [hn] at hk
    show (if k < n then G.pl k else _) = some p
    rw [if_pos hk]; exact hp

def goIdsC (T : Objs) : List Nat → (Objs → Prop) → Prop
  | [], k => k []
  | i :: l, k => bindO T[i]? fun x => bindO x fun ob => clOb ob ∧ goIdsC T l fun os => k (some ob :: os)
theorem goIdsC_spec {T : Objs} : ∀ {ids : List Nat} {K : Objs → Prop}, goIdsC T ids K → ∃ os, K os ∧ os.length = ids.length ∧ ∀ (k : Nat) (ob' : Ob), os[k]? = some (some ob') → ∃ o, ids[k]? = some o ∧ T[o]? = some (some ob') ∧ clOb ob'
  | [], K, h => ⟨[], h, rfl, by simp⟩
  | i :: l, K, h => by
    simp only [goIdsC] at h
    cases h1 : T[i]? with
    | none => rw [h1] at h; exact h.elim
    | some x =>
      rw [h1] at h
      cases x with
      | none => exact h.elim
      | some ob =>
        obtain ⟨h0, h⟩ := h
        obtain ⟨os, h2, h3, h4⟩ := goIdsC_spec h
        refine ⟨some ob :: os, h2, by simp [h3], fun k ob' hk => ?_⟩
        rcases k with _ | k
        · simp at hk; subst hk; exact ⟨i, rfl, h1, h0⟩
        · exact h4 k ob' (by simpa using hk)
/-- What a function comes to, told by its own names, from n on. -/
def retH (n : Nat) (d : DV) (T : Objs) (K : DV → Objs → Prop) : Prop := ndup (idsT d) ∧ clT d ∧ goIdsC T (idsT d) fun os => K (canT n (idsT d) d) os
theorem retH_spec {n : Nat} {d : DV} {T : Objs} {K : DV → Objs → Prop} (h : retH n d T K) : ∃ g r' os, CanonT n g d T r' os ∧ K r' os := by
  obtain ⟨hn, hc, hg⟩ := h
  rw [ndup_eq] at hn
  obtain ⟨os, h1, h2, h4⟩ := goIdsC_spec hg
  refine ⟨pick1 n (idsT d), _, os, ⟨renT (fun _ h => h) hc, fun k ob' hk => ?_, fun a b x ha hb => ?_, fun a x ha => ?_⟩, h1⟩
  · obtain ⟨o, h5, h6, h7⟩ := h4 k ob' hk
    have hm := List.mem_of_getElem? h5
    refine ⟨o, ob', ?_, h6, renOb h7⟩
    show (if o ∈ idsT d then some (n + pos o (idsT d)) else none) = some (n + k)
    rw [if_pos hm]
    have h8 := pos_get hm
    have : pos o (idsT d) = k := (List.getElem?_inj (pos_lt hm) hn).1 (h8.trans h5.symm)
    rw [this]
  · unfold pick1 at ha hb
    by_cases hma : a ∈ idsT d
    case neg => rw [if_neg hma] at ha; cases ha
    by_cases hmb : b ∈ idsT d
    case neg => rw [if_neg hmb] at hb; cases hb
    rw [if_pos hma] at ha
    rw [if_pos hmb] at hb
    have e : n + pos a (idsT d) = n + pos b (idsT d) := (Option.some.inj ha).trans (Option.some.inj hb).symm
    have h8 := pos_get hma
    have h9 := pos_get hmb
    rw [show pos a (idsT d) = pos b (idsT d) by omega, h9] at h8
    exact (Option.some.inj h8).symm
  · unfold pick1 at ha
    split at ha
    · rename_i hm
      have := pos_lt hm
      obtain rfl := Option.some.inj ha
      exact ⟨by omega, by omega⟩
    · cases ha
/-- A function that is handed objects at n, n + 1, ..: what it comes to; it uses them up. -/
def HCalls (E : Prg) (f : Nat) (args : Nat → List DV) (obs : List Ob) (res : Nat → DV × Objs) : Prop :=
  ∀ n, GCalls E f (args n) (List.replicate n none ++ obs.map some) fun r T' => r = (res (n + obs.length)).1 ∧ T' = List.replicate (n + obs.length) none ++ (res (n + obs.length)).2
theorem HCalls.by_fn {E : Prg} {F : FTab} (hF : FOk E F) {f : Nat} {ann : List Ann} {rf : RFn} {args : Nat → List DV} {obs : List Ob} {res : Nat → DV × Objs} (hc : compFn E.P ann f = some rf) (hargs : ∀ n, (args n).length ≤ rf.n)
    (h : ∀ n, rf.code.wp E F rf.n (finQ rf.res fun d T' => n + obs.length ≤ T'.length ∧ retH (n + obs.length) d T' fun d' os => wkT d' (res (n + obs.length)).1 ∧ os = (res (n + obs.length)).2) ⟨initEnv 0 (args n), List.replicate n none ++ obs.map some⟩) : HCalls E f args obs res := by
  intro n
  have hlen : (List.replicate n (none : Option Ob) ++ obs.map some).length = n + obs.length := by simp
  have h1 : GCalls E f (args n) (List.replicate n none ++ obs.map some) fun d T' => retH (n + obs.length) d T' fun d' os => wkT d' (res (n + obs.length)).1 ∧ os = (res (n + obs.length)).2 := by
    refine GCalls.of_fn hF hc (hargs n) ?_
    refine RC.wp_mono _ (h n) fun e st hh => ?_
    cases e with
    | normal =>
      simp only [finQ] at hh ⊢
      split at hh
      · exact ⟨by rw [hlen]; exact hh.1, hh.2⟩
      · exact hh.elim
    | ret =>
      simp only [finQ] at hh ⊢
      split at hh
      · exact ⟨by rw [hlen]; exact hh.1, hh.2⟩
      · exact hh.elim
    | _ => exact hh
  have h2 : GCalls E f (args n) (List.replicate n none ++ obs.map some) fun d T' => wkT d (res (n + obs.length)).1 ∧ T' = List.replicate (n + obs.length) none ++ (res (n + obs.length)).2 :=
    GCalls.canonT hlen h1 fun r T' hr => by
      obtain ⟨g, r', os, hc, hk1, hk2⟩ := retH_spec hr
      exact ⟨g, r', os, hc, hk1, by rw [hk2]⟩
  intro G w vs g1 g2 g3 g4
  refine Calls.mono (h2 G w vs g1 g2 g3 g4) fun e w' ⟨v, r, T', G', a, ⟨hr, hT⟩, hl, hrel, hh, hf⟩ => ?_
  exact ⟨v, _, T', G', a, ⟨rfl, hT⟩, hl, wkT_rel hr hrel, hh, hf⟩
def killL : List Nat → Objs → Objs
  | [], T => T
  | i :: l, T => killL l (T.set i none)
theorem killL_len : ∀ (l : List Nat) (T : Objs), (killL l T).length = T.length
  | [], T => rfl
  | i :: l, T => by simp [killL, killL_len l]
theorem killL_get : ∀ (l : List Nat) (T : Objs) (k : Nat) (ob : Ob), (killL l T)[k]? = some (some ob) → k ∉ l ∧ T[k]? = some (some ob)
  | [], T, k, ob, h => ⟨by simp, h⟩
  | i :: l, T, k, ob, h => by
    obtain ⟨h1, h2⟩ := killL_get l _ k ob h
    rw [getElem?_set] at h2
    by_cases e : i = k
    · rw [if_pos e] at h2
      split at h2
      · simp at h2
      · cases h2
    · rw [if_neg e] at h2
      exact ⟨by simp [h1]; exact fun h => e h.symm, h2⟩
def onlyIds (ids : List Nat) (T : Objs) : Objs := (List.range T.length).map fun k => if k ∈ ids then (T[k]?).getD none else none
theorem onlyIds_len (ids : List Nat) (T : Objs) : (onlyIds ids T).length = T.length := by simp [onlyIds]
theorem onlyIds_get {ids : List Nat} {T : Objs} {k : Nat} {ob : Ob} : (onlyIds ids T)[k]? = some (some ob) ↔ k ∈ ids ∧ T[k]? = some (some ob) := by
  by_cases hk : k < T.length
  · simp only [onlyIds, List.getElem?_map, List.getElem?_range hk, Option.map_some, Option.some.injEq, List.getElem?_eq_getElem hk, Option.getD_some]
    by_cases hm : k ∈ ids
    · simp [hm]
    · simp [hm]
  · rw [List.getElem?_eq_none (by rw [onlyIds_len]; omega), List.getElem?_eq_none (by omega)]
    simp
theorem CallK.hand {E : Prg} {f : Nat} {args : List DV} {T : Objs} {K : DV → Objs → Prop} (ids : List Nat) (obs : List Ob) (hnd : ids.Nodup) (hlen : obs.length = ids.length)
    (hT : ∀ (i : Nat) o ob, ids[i]? = some o → obs[i]? = some ob → T[o]? = some (some ob)) (hids : ∀ d ∈ args, ∀ o ∈ idsT d, o ∈ ids) {args0 : Nat → List DV} (hargs : args.map (canT T.length ids) = args0 T.length) {res : Nat → DV × Objs}
    (h : HCalls E f args0 obs res) (hK : K (res (T.length + ids.length)).1 (killL ids T ++ (List.replicate ids.length none ++ (res (T.length + ids.length)).2))) : CallK E f args T K := by
  have h0 := h T.length
  rw [← hargs, hlen] at h0
  refine ⟨onlyIds ids T, fun r T' => r = (res (T.length + ids.length)).1 ∧ T' = List.replicate (T.length + ids.length) none ++ (res (T.length + ids.length)).2, onlyIds_len _ _, fun k ob hk => (onlyIds_get.1 hk).2, ?_, ?_⟩
  · intro G w vs g1 g2 g3 g4
    let G0 : Gh := { rd := G.rd, pl := fun x => if x < T.length then G.pl x else match ids[x - T.length]? with | some o => G.pl o | none => none }
    have hle : G.le G0 := ⟨fun _ _ h => h, fun k p hp => by
      have := g2.pls k p hp
      rw [onlyIds_len] at this
      simp only [G0]
      rw [if_pos this]; exact hp⟩
    have hpl : ∀ o p, o ∈ ids → G.pl o = some p → G0.pl (T.length + pos o ids) = some p := fun o p ho hp => by
      simp only [G0]
      rw [if_neg (by omega), Nat.add_sub_cancel_left, pos_get ho]
      exact hp
    have hnew : ∀ (k : Nat) (ob : Ob), (List.replicate T.length none ++ obs.map some)[k]? = some (some ob) → ∃ o, ids[k - T.length]? = some o ∧ T.length ≤ k ∧ (onlyIds ids T)[o]? = some (some ob) ∧ G0.pl k = G.pl o := fun k ob hk => by
      by_cases hlt : k < T.length
      · rw [List.getElem?_append_left (by simpa using hlt)] at hk; exact (getElem?_rep hk).elim
      · rw [List.getElem?_append_right (by simpa using hlt)] at hk
        simp only [List.length_replicate, List.getElem?_map, Option.map_eq_some_iff, Option.some.injEq] at hk
        obtain ⟨ob2, hk, rfl⟩ := hk
        have hlt2 : k - T.length < ids.length := by rw [← hlen]; exact (List.getElem?_eq_some_iff.1 hk).1
        refine ⟨ids[k - T.length], List.getElem?_eq_getElem hlt2, by omega, onlyIds_get.2 ⟨List.getElem_mem _, hT _ _ _ (List.getElem?_eq_getElem hlt2) hk⟩, ?_⟩
        simp only [G0]
        rw [if_neg hlt, List.getElem?_eq_getElem hlt2]
    have hH : Heap G0 (List.replicate T.length none ++ obs.map some) w := by
      refine ⟨fun k p hp => ?_, fun k ob hob => ?_, ?_, g2.rdv, ?_⟩
      · simp only [G0] at hp
        simp only [List.length_append, List.length_replicate, List.length_map, hlen]
        split at hp
        · omega
        · split at hp
          · rename_i o ho
            have := (List.getElem?_eq_some_iff.1 ho).1
            omega
          · cases hp
      · obtain ⟨o, h1, h2, h3, h4⟩ := hnew k ob hob
        obtain ⟨p, hp, hl⟩ := g2.live o ob h3
        exact ⟨p, h4.trans hp, hl.mono hle (fun _ _ => rfl) (fun _ _ => rfl) (fun _ h => h)⟩
      · intro k k' r r' p p' i i' h1 h2 hne hp hp' hi hi'
        obtain ⟨o, a1, a2, a3, a4⟩ := hnew k r h1
        obtain ⟨o', b1, b2, b3, b4⟩ := hnew k' r' h2
        refine g2.sep o o' r r' p p' i i' a3 b3 (fun e => ?_) (a4.symm.trans hp) (b4.symm.trans hp') hi hi'
        subst e
        have := nodup_idx hnd a1 b1
        omega
      · intro k r p i hk hp hi
        obtain ⟨o, a1, a2, a3, a4⟩ := hnew k r hk
        exact g2.rds o r p i a3 (a4.symm.trans hp) hi
    have hsub : ∀ x, cellsOf G0 (List.replicate T.length none ++ obs.map some) x → cellsOf G (onlyIds ids T) x := fun x ⟨k, ob, p, m, h1, h2, h3, h4⟩ => by
      obtain ⟨o, a1, a2, a3, a4⟩ := hnew k ob h1
      exact ⟨o, ob, p, m, a3, a4.symm.trans h2, h3, h4⟩
    refine Calls.mono (h0 G0 w vs (fun g row hg => (g1 g row hg).mono hle) hH (by simpa using g3) (fun i d hd => ?_)) fun e w' ⟨v, r, T', G', a, hr, hl, hrel, hh, hf⟩ => ?_
    · rw [List.getElem?_map, Option.map_eq_some_iff] at hd
      obtain ⟨d0, hd0, rfl⟩ := hd
      exact canT_rel hle hpl (fun o ho => hids d0 (List.mem_of_getElem? hd0) o ho) (g4 i d0 hd0)
    · refine ⟨v, r, T', G', a, hr, by rw [onlyIds_len]; rw [hr.2]; simp; omega, hrel, hh, ⟨hf.os, hf.tape, hf.output, hf.size, fun b hb hn => hf.blk b hb fun o ho => hn o (hsub _ ho), fun x hx hn => hf.cell x hx fun ho => hn (hsub _ ho),
        fun x v hx hn => hf.frz x v hx fun ho => hn (hsub _ ho), fun k ob p m h1 h2 h3 => ?_, fun x v hx => ?_, hle.trans hf.le, hf.mko⟩⟩
      · rcases hf.mine k ob p m h1 h2 h3 with h4 | h4
        · exact .inl h4
        · exact .inr (hsub _ h4)
      · rcases hf.rdn x v hx with h4 | h4 | h4
        · exact .inl h4
        · exact .inr (.inl h4)
        · exact .inr (.inr (hsub _ h4))
  · rintro r T1' ⟨rfl, rfl⟩ _
    refine ⟨_, ⟨by simp [killL_len]; omega, onlyIds_len _ _, fun k ob hk => (onlyIds_get.1 hk).2, fun k ob ob' h1 h2 => ?_, fun k ob' hlt _ h2 => ?_, fun k ob' hge h2 => ?_⟩, hK⟩
    · obtain ⟨h3, h4⟩ := onlyIds_get.1 h1
      have hlt := (List.getElem?_eq_some_iff.1 h4).1
      rw [List.getElem?_append_left (by rw [killL_len]; exact hlt)] at h2
      exact absurd h3 (killL_get _ _ _ _ h2).1
    · rw [List.getElem?_append_left (by rw [killL_len]; exact hlt)] at h2
      exact .inl (killL_get _ _ _ _ h2).2
    · rw [List.getElem?_append_right (by rw [killL_len]; exact hge), killL_len] at h2
      rw [← List.replicate_append_replicate, List.append_assoc, List.getElem?_append_right (by simpa using hge)]
      simpa using h2
/-- What is known of an own slice's object. -/
def isOwn (k : IntKind) (n : Nat) : Option (Option Ob) → Prop
  | some (some (.arr sz rows)) => sz = 1 ∧ rows = intRows k (ints rows) ∧ rows.length = n ∧ inK k (ints rows)
  | _ => False
def objInts : Option (Option Ob) → List Int
  | some (some (.arr _ rows)) => ints rows
  | _ => []
theorem isOwn_inv {k : IntKind} {n : Nat} {x : Option (Option Ob)} (h : isOwn k n x) : x = some (some (.arr 1 (intRows k (objInts x)))) ∧ (objInts x).length = n ∧ inK k (objInts x) := by
  unfold isOwn at h
  split at h
  · obtain ⟨rfl, h1, h2, h3⟩ := h
    refine ⟨by simp only [objInts]; rw [← h1], ?_, h3⟩
    simp only [objInts]
    rw [← h2]; simp [ints]
  · exact h.elim
theorem isOwn_arr (k : IntKind) (n : Nat) (l : List Int) : isOwn k n (some (some (.arr 1 (intRows k l)))) = (l.length = n ∧ inK k l) := by simp [isOwn, ints_intRows, intRows_length]
theorem objInts_arr (k : IntKind) (sz : Nat) (l : List Int) : objInts (some (some (.arr sz (intRows k l)))) = l := by simp [objInts, ints_intRows]
theorem goIdsC_nil (T : Objs) (k : Objs → Prop) : goIdsC T [] k = k [] := nrfl _
theorem goIdsC_cons (T : Objs) (i : Nat) (l : List Nat) (k : Objs → Prop) : goIdsC T (i :: l) k = (bindO T[i]? fun x => bindO x fun ob => clOb ob ∧ goIdsC T l fun os => k (some ob :: os)) := nrfl _
theorem retH_eq (n : Nat) (d : DV) (T : Objs) (K : DV → Objs → Prop) : retH n d T K = (ndup (idsT d) ∧ clT d ∧ goIdsC T (idsT d) fun os => K (canT n (idsT d) d) os) := nrfl _
theorem killL_nil (T : Objs) : killL [] T = T := nrfl _
theorem killL_cons (i : Nat) (l : List Nat) (T : Objs) : killL (i :: l) T = killL l (T.set i none) := nrfl _
/-- A nil slice is an own one without a cell. -/
theorem PCalls.nil_own {E : Prg} {f : Nat} {args : List DV} {s sz : Nat} (h : PCalls E f args fun n r os => r = .sl s [] .nil ∧ os = []) : PCalls E f args fun n r os => r = .own n 0 0 ∧ os = [some (.arr sz [])] := by
  intro n G w vs g1 g2 g3 g4
  refine Calls.mono (h n G w vs g1 g2 g3 g4) fun e w' ⟨v, r, T', G', a, ⟨os, hT, hr, hos⟩, hl, hrel, hh, hf⟩ => ?_
  subst hr hos
  rw [List.append_nil] at hT
  subst hT
  have hr : RelG E ⟨w, G, cellsOf G (List.replicate n none), 1⟩ G' ⟨[(0, .sl s [] .nil)], List.replicate n none⟩ ⟨#[v], []⟩ w' := by
    refine ⟨fun t => ?_, rfl, rfl, hh, hf.ctx, fun g row hg => (g1 g row hg).mono hf.le⟩
    by_cases e : t = 0
    · subst e; exact hrel
    · have : St.get ⟨[(0, .sl s [] .nil)], List.replicate n none⟩ t = .undef := by
        simp only [St.get, St.look]
        rw [if_neg (fun h => e h.symm)]
      rw [this]; exact .undef _
  have h2 := hr.newEmpty sz
  refine ⟨v, .own n 0 0, List.replicate n none ++ [some (.arr sz [])], G'.more n ⟨0, 0, sz, 0⟩, a, ⟨_, rfl, rfl, rfl⟩, by simp, ?_, ?_, ?_⟩
  · cases hrel with
    | sl _ _ _ p len cap b' o vals h5 h6 h7 h8 _ _ _ =>
      have hl : len = 0 := by simpa using h5
      subst hl
      have hc0 : cap = 0 := h6.2
      subst hc0
      exact .own _ 0 0 ⟨0, 0, sz, 0⟩ p 0 (by simp [Gh.more]) rfl (Nat.le_refl _) (fun h => by omega)
  · have := h2.heap
    simpa using this
  · have := h2.frm.ctx (m := 0)
    simpa using this
/-- What a variable holds. -/
def ldV (ag : Bool) (sz : Nat) (T : Objs) : DV → Option DV
  | .ptr o i j => (T[o]?).bind fun x => x.bind fun ob => (ob.rows[i]?).bind fun row => rowAt ag sz row j
  | .rp row j => rowAt ag sz row j
  | _ => none
theorem resC2 (st : St) (i : Nat) (ag : Bool) (sz : Nat) : Res.ev st (.c i ag sz) = ldV ag sz st.objs (st.get i) := by
  simp only [Res.ev, ldV]
  generalize st.get i = d
  cases d <;> try rfl
  rename_i o r j
  simp only
  cases st.objs[o]? with
  | none => rfl
  | some x =>
    cases x with
    | none => rfl
    | some ob =>
      simp only [Option.bind_some]
      cases ob.rows[r]? <;> rfl
theorem ldV_ptr (ag : Bool) (sz : Nat) (T : Objs) (o i j : Nat) : ldV ag sz T (.ptr o i j) = (T[o]?).bind fun x => x.bind fun ob => (ob.rows[i]?).bind fun row => rowAt ag sz row j := nrfl _
theorem ldV_rp (ag : Bool) (sz : Nat) (T : Objs) (row : List DV) (j : Nat) : ldV ag sz T (.rp row j) = rowAt ag sz row j := nrfl _
/-- What a function comes to, its own slices let go of. -/
def ownsT : DV → List Nat
  | .tup cs => cs.flatMap ownIds
  | d => ownIds d
def frzK (st : St) (K : DV → Objs → Prop) : Prop := K (st.get 0) st.objs
def frzR (d : DV) (T : Objs) (K : DV → Objs → Prop) : Prop := frzK (St.freezes (ownsT d) ⟨[(0, d)], T⟩) K
theorem frzR_eq (d : DV) (T : Objs) (K : DV → Objs → Prop) : frzR d T K = frzK (St.freezes (ownsT d) ⟨[(0, d)], T⟩) K := nrfl _
theorem frzK_mk (d : DV) (T : Objs) (K : DV → Objs → Prop) : frzK ⟨[(0, d)], T⟩ K = K d T := nrfl _
theorem ownsT_tup (cs : List DV) : ownsT (.tup cs) = cs.flatMap ownIds := nrfl _
theorem ownsT_own (o off n : Nat) : ownsT (.own o off n) = [o] := nrfl _
theorem ownsT_agg (cs : List DV) : ownsT (.agg cs) = ownIds (.agg cs) := nrfl _
theorem ownsT_sl (sz : Nat) (rows : List (List DV)) (k : SK) : ownsT (.sl sz rows k) = [] := nrfl _
theorem ownIds_int (k : IntKind) (n : Int) : ownIds (.int k n) = [] := nrfl _
theorem ownIds_bool (b : Bool) : ownIds (.bool b) = [] := nrfl _
theorem ownIds_str (b : List UInt8) : ownIds (.str b) = [] := nrfl _
theorem ownIds_ptr (o i j : Nat) : ownIds (.ptr o i j) = [] := nrfl _
theorem freeze_len (o : Nat) (st : St) : (st.freeze o).objs.length = st.objs.length := by
  unfold St.freeze
  split
  · split <;> simp
  · rfl
theorem freezes_len : ∀ (l : List Nat) (st : St), (St.freezes l st).objs.length = st.objs.length
  | [], st => rfl
  | o :: l, st => by rw [St.freezes, freezes_len l, freeze_len]
theorem GCalls.frz {E : Prg} {f : Nat} {args : List DV} {T : Objs} {R : DV → Objs → Prop} (h : GCalls E f args T R) : GCalls E f args T fun r T' => ∃ d T0, R d T0 ∧ r = (St.freezes (ownsT d) ⟨[(0, d)], T0⟩).get 0 ∧ T' = (St.freezes (ownsT d) ⟨[(0, d)], T0⟩).objs := by
  intro G w vs g1 g2 g3 g4
  refine Calls.mono (h G w vs g1 g2 g3 g4) fun e w' ⟨v, r, T', G', a, hR, hl, hrel, hh, hf⟩ => ?_
  have hr : RelSt E ⟨w, G, cellsOf G T, 1⟩ ⟨[(0, r)], T'⟩ ⟨#[v], []⟩ w' := by
    refine ⟨G', fun t => ?_, rfl, rfl, hh, hf.ctx, fun g row hg => (g1 g row hg).mono hf.le⟩
    by_cases e : t = 0
    · subst e; exact hrel
    · have : St.get ⟨[(0, r)], T'⟩ t = .undef := by
        simp only [St.get, St.look]
        rw [if_neg (fun h => e h.symm)]
      rw [this]; exact .undef _
  obtain ⟨G2, h2⟩ := hr.freezes (ownsT r)
  refine ⟨v, _, _, G2, a, ⟨r, T', hR, rfl, rfl⟩, by rw [freezes_len]; exact hl, h2.env 0, h2.heap, h2.frm.ctx⟩
theorem HCalls.by_fnF {E : Prg} {F : FTab} (hF : FOk E F) {f : Nat} {ann : List Ann} {rf : RFn} {args : Nat → List DV} {obs : List Ob} {res : Nat → DV × Objs} (hc : compFn E.P ann f = some rf) (hargs : ∀ n, (args n).length ≤ rf.n)
    (h : ∀ n, rf.code.wp E F rf.n (finQ rf.res fun d T' => n + obs.length ≤ T'.length ∧ frzR d T' fun d T' => retH (n + obs.length) d T' fun d' os => wkT d' (res (n + obs.length)).1 ∧ os = (res (n + obs.length)).2) ⟨initEnv 0 (args n), List.replicate n none ++ obs.map some⟩) : HCalls E f args obs res := by
  intro n
  have hlen : (List.replicate n (none : Option Ob) ++ obs.map some).length = n + obs.length := by simp
  have h1 : GCalls E f (args n) (List.replicate n none ++ obs.map some) fun d T' => frzR d T' fun d T' => retH (n + obs.length) d T' fun d' os => wkT d' (res (n + obs.length)).1 ∧ os = (res (n + obs.length)).2 := by
    refine GCalls.of_fn hF hc (hargs n) ?_
    refine RC.wp_mono _ (h n) fun e st hh => ?_
    cases e with
    | normal =>
      simp only [finQ] at hh ⊢
      split at hh
      · exact ⟨by rw [hlen]; exact hh.1, hh.2⟩
      · exact hh.elim
    | ret =>
      simp only [finQ] at hh ⊢
      split at hh
      · exact ⟨by rw [hlen]; exact hh.1, hh.2⟩
      · exact hh.elim
    | _ => exact hh
  have h2 : GCalls E f (args n) (List.replicate n none ++ obs.map some) fun d T' => wkT d (res (n + obs.length)).1 ∧ T' = List.replicate (n + obs.length) none ++ (res (n + obs.length)).2 :=
    GCalls.canonT hlen h1.frz fun r T' ⟨d, T0, hr, hd, hT⟩ => by
      subst hd hT
      rw [frzR_eq] at hr
      unfold frzK at hr
      obtain ⟨g, r', os, hc, hk1, hk2⟩ := retH_spec hr
      exact ⟨g, r', os, hc, hk1, by rw [hk2]⟩
  intro G w vs g1 g2 g3 g4
  refine Calls.mono (h2 G w vs g1 g2 g3 g4) fun e w' ⟨v, r, T', G', a, ⟨hr, hT⟩, hl, hrel, hh, hf⟩ => ?_
  exact ⟨v, _, T', G', a, ⟨rfl, hT⟩, hl, wkT_rel hr hrel, hh, hf⟩
/-- A function that is handed nothing: as one that is handed no objects. -/
theorem PCalls.by_fnF {E : Prg} {F : FTab} (hF : FOk E F) {f : Nat} {ann : List Ann} {rf : RFn} {args : List DV} {res : Nat → DV × Objs} (hc : compFn E.P ann f = some rf) (hargs : args.length ≤ rf.n)
    (h : ∀ n, rf.code.wp E F rf.n (finQ rf.res fun d T' => n ≤ T'.length ∧ frzR d T' fun d T' => retH n d T' fun d' os => wkT d' (res n).1 ∧ os = (res n).2) ⟨initEnv 0 args, List.replicate n none⟩) : PCalls E f args fun n r os => r = (res n).1 ∧ os = (res n).2 := by
  intro n
  have h1 : GCalls E f args (List.replicate n none) fun r T' => r = (res n).1 ∧ T' = List.replicate n none ++ (res n).2 := by
    have := HCalls.by_fnF (args := fun _ => args) (obs := []) (res := res) hF hc (fun _ => hargs) (fun n => by simpa using h n) n
    simpa using this
  exact h1.mono fun r T' ⟨h2, h3⟩ => ⟨_, h3, h2, rfl⟩
/-- Two values name no object in common. -/
def idNe (d d' : DV) : Prop := ∀ o, DV.id d = some o → DV.id d' ≠ some o
theorem clearOf_1 {E : Prg} {st : St} {op : ROp} {x p : Opd} (h : op.opds = [x]) : clearOf E st op p = idNe (Opd.ev E st x) (Opd.ev E st p) := by simp [clearOf, h, idNe]
theorem clearOf_load (E : Prg) (st : St) (ag : Bool) (sz : Nat) (x p : Opd) : clearOf E st (.load ag sz x) p = idNe (Opd.ev E st x) (Opd.ev E st p) := clearOf_1 rfl
theorem clearOf_b2s (E : Prg) (st : St) (x p : Opd) : clearOf E st (.conv .b2s x) p = idNe (Opd.ev E st x) (Opd.ev E st p) := clearOf_1 rfl
theorem clearOf_iaddr (E : Prg) (st : St) (sz : Nat) (x y p : Opd) : clearOf E st (.iaddr sz x y) p = (idNe (Opd.ev E st x) (Opd.ev E st p) ∧ idNe (Opd.ev E st y) (Opd.ev E st p)) := by simp [clearOf, ROp.opds, idNe]
theorem idNe_pp (o i j o' i' j' : Nat) : idNe (.ptr o i j) (.ptr o' i' j') = ¬ o = o' := by simp [idNe, DV.id]; exact ⟨fun h e => h e.symm, fun h e => h e.symm⟩
theorem idNe_po (o i j o' i' j' : Nat) : idNe (.ptr o i j) (.own o' i' j') = ¬ o = o' := by simp [idNe, DV.id]; exact ⟨fun h e => h e.symm, fun h e => h e.symm⟩
theorem idNe_op (o i j o' i' j' : Nat) : idNe (.own o i j) (.ptr o' i' j') = ¬ o = o' := by simp [idNe, DV.id]; exact ⟨fun h e => h e.symm, fun h e => h e.symm⟩
theorem idNe_oo (o i j o' i' j' : Nat) : idNe (.own o i j) (.own o' i' j') = ¬ o = o' := by simp [idNe, DV.id]; exact ⟨fun h e => h e.symm, fun h e => h e.symm⟩
theorem idNe_sl (sz : Nat) (rows : List (List DV)) (k : SK) (d : DV) : idNe (.sl sz rows k) d = True := by simp [idNe, DV.id]
theorem idNe_rp (row : List DV) (j : Nat) (d : DV) : idNe (.rp row j) d = True := by simp [idNe, DV.id]
theorem idNe_int (k : IntKind) (n : Int) (d : DV) : idNe (.int k n) d = True := by simp [idNe, DV.id]
theorem idNe_sl2 (sz : Nat) (rows : List (List DV)) (k : SK) (d : DV) : idNe d (.sl sz rows k) = True := by simp [idNe, DV.id]
theorem vcB3 : type_of% (And.intro @frzR_eq <| And.intro @frzK_mk <| And.intro @ownsT_tup <| And.intro @ownsT_own <| And.intro @ownsT_agg <| And.intro @ownsT_sl <| And.intro @ownIds_int <| And.intro @ownIds_bool <| And.intro @ownIds_str <| @ownIds_ptr) :=
  And.intro @frzR_eq <| And.intro @frzK_mk <| And.intro @ownsT_tup <| And.intro @ownsT_own <| And.intro @ownsT_agg <| And.intro @ownsT_sl <| And.intro @ownIds_int <| And.intro @ownIds_bool <| And.intro @ownIds_str <| @ownIds_ptr
theorem vcB2 : type_of% (And.intro @clearOf_load <| And.intro @clearOf_b2s <| And.intro @clearOf_iaddr <| And.intro @idNe_pp <| And.intro @idNe_po <| And.intro @idNe_op <| And.intro @idNe_oo <| And.intro @idNe_sl <| And.intro @idNe_rp <| And.intro @idNe_int <| @idNe_sl2) :=
  And.intro @clearOf_load <| And.intro @clearOf_b2s <| And.intro @clearOf_iaddr <| And.intro @idNe_pp <| And.intro @idNe_po <| And.intro @idNe_op <| And.intro @idNe_oo <| And.intro @idNe_sl <| And.intro @idNe_rp <| And.intro @idNe_int <| @idNe_sl2
theorem vcB1 : type_of% (And.intro @resC2 <| And.intro @ldV_ptr <| And.intro @ldV_rp <| And.intro @isOwn_arr <| And.intro @objInts_arr <| And.intro @goIdsC_nil <| And.intro @goIdsC_cons <| And.intro @retH_eq <| And.intro @killL_nil <| @killL_cons) :=
  And.intro @resC2 <| And.intro @ldV_ptr <| And.intro @ldV_rp <| And.intro @isOwn_arr <| And.intro @objInts_arr <| And.intro @goIdsC_nil <| And.intro @goIdsC_cons <| And.intro @retH_eq <| And.intro @killL_nil <| @killL_cons
end Go.Proofs.Ytaopaongpoecoaa
end
section
/- What simp is to know of structs that are compared, copy, interfaces, closures and calls that are walked in place. -/
set_option linter.unusedVariables false
set_option linter.unusedSimpArgs false
namespace Go.Proofs.Ytaopaongpoecoaa
open Go.RowKit


section
variable (E : Prg) (F : FTab) (K : St → Prop) (st : St) (dst : Option Nat) (z : Bool) (f : Nat) (args : List Opd)

theorem stV_inv (dr : Bool) (y : Opd) (name : String) : stV E F dr (.inv y name args) dst z st K = invV E F dr (invOf E st.objs (Opd.ev E st y) name) (args.map (Opd.ev E st)) st.objs fun d T' => goSt (nx st (d, T') z dst) K := nrfl _
theorem ot_fin (op : ROp) : (OT.fin ⟨dst, op, none, z⟩).wp E F K st = stV E F false op dst z st K := nrfl _
theorem ot_fing (op : ROp) (t : Nat) (w : Bool) : (OT.fin ⟨dst, op, some (t, w), z⟩).wp E F K st = bindG (st.get t) (fun b => cnd (b == w) (goSt (st.know t w) fun st => stV E F false op dst z st K) (goSt ((st.know t (!w)).put dst .no) K)) (goSt (st.put dst .no) K) := nrfl _
theorem stV_eqS (dr : Bool) (g : Bool) (ks : List CK) (x y : Opd) : stV E F dr (.eqS g ks x y) dst z st K = bindO (rvl E st (.eqS g ks x y)) fun p => goSt (nx st p z dst) K := stV_op E F K st dst (.eqS g ks x y) z dr rfl
theorem stV_copy (dr : Bool) (sz : Nat) (x y : Opd) : stV E F dr (.copy sz x y) dst z st K = bindO (rvl E st (.copy sz x y)) fun p => goSt (nx st p z dst) K := stV_op E F K st dst (.copy sz x y) z dr rfl
theorem stV_mkfn (dr : Bool) (l : List Opd) : stV E F dr (.mkfn f l) dst z st K = bindO (rvl E st (.mkfn f l)) fun p => goSt (nx st p z dst) K := stV_op E F K st dst (.mkfn f l) z dr rfl
theorem stV_mkIfc (dr : Bool) (t : TypeId) (x : Opd) : stV E F dr (.mkIfc t x) dst z st K = bindO (rvl E st (.mkIfc t x)) fun p => goSt (nx st p z dst) K := stV_op E F K st dst (.mkIfc t x) z dr rfl
theorem stV_asrt (dr : Bool) (t : TypeId) (x : Opd) : stV E F dr (.asrt t x) dst z st K = bindO (rvl E st (.asrt t x)) fun p => goSt (nx st p z dst) K := stV_op E F K st dst (.asrt t x) z dr rfl
theorem stV_eqP (dr : Bool) (g : Bool) (x y : Opd) : stV E F dr (.eqP g x y) dst z st K = bindO (rvl E st (.eqP g x y)) fun p => goSt (nx st p z dst) K := stV_op E F K st dst (.eqP g x y) z dr rfl
theorem rvl_eqP (g : Bool) (x y : Opd) : rvl E st (.eqP g x y) = (nilP (x.ev E st) (y.ev E st)).map fun b => (.bool (if g then !b else b), st.objs) := nrfl _
theorem nilP_ptr (o i j : Nat) : nilP (.ptr o i j) (.lit (.pointer none)) = some false := nrfl _
theorem nilP_rp (row : List DV) (j : Nat) : nilP (.rp row j) (.lit (.pointer none)) = some false := nrfl _
theorem nilP_nil : nilP (.lit (.pointer none)) (.lit (.pointer none)) = some true := nrfl _
theorem invV_some (d : DV) (as : List DV) (T : Objs) (L : DV → Objs → Prop) : invV E F false (some (f, d)) as T L = (hasBody E.P f = true ∧ callV E (F f (d :: as)) false f (d :: as) T L) := nrfl _
theorem calldV_clo (cs as : List DV) (T : Objs) (L : DV → Objs → Prop) : calldV E F false (.wrap (.clo f) cs) as T L = (hasBody E.P f = true ∧ callV E (F f (as ++ cs)) false f (as ++ cs) T L) := nrfl _
theorem invOf_ifc (T : Objs) (t : TypeId) (x : DV) (name : String) : invOf E T (.wrap (.ifc t) [x]) name = invRow T x (methRow E.P t name) := nrfl _
theorem invOf_ifa (T : Objs) (t : TypeId) (cs : List DV) (name : String) : invOf E T (.wrap (.ifa t) cs) name = invRow T (.agg cs) (methRow E.P t name) := nrfl _
theorem invRow_some (T : Objs) (d : DV) (way : Option (Bool × Nat)) : invRow T d (some (f, way)) = (invRecv T way d).map fun x => (f, x) := nrfl _
theorem invRecv_self (T : Objs) (d : DV) : invRecv T none d = some d := nrfl _
theorem invRecv_ptr (T : Objs) (ag : Bool) (sz o i j : Nat) : invRecv T (some (ag, sz)) (.ptr o i j) = (T[o]?).bind fun x => x.bind fun ob => (ob.rows[i]?).bind fun row => rowAt ag sz row j := by
  simp only [invRecv]
  generalize T[o]? = x
  rcases x with _ | _ | ob <;> try rfl
  simp only [Option.bind]
  generalize ob.rows[i]? = y
  cases y <;> rfl
theorem invRecv_rp (T : Objs) (ag : Bool) (sz j : Nat) (row : List DV) : invRecv T (some (ag, sz)) (.rp row j) = rowAt ag sz row j := nrfl _

theorem rvl_mkfn (l : List Opd) : rvl E st (.mkfn f l) = some (.wrap (.clo f) (l.map (Opd.ev E st)), st.objs) := nrfl _
def mkIfcV (t : TypeId) : DV → DV
  | .agg cs => .wrap (.ifa t) cs
  | d => .wrap (.ifc t) [d]
theorem rvl_mkIfc (t : TypeId) (x : Opd) : rvl E st (.mkIfc t x) = some (mkIfcV t (x.ev E st), st.objs) := by
  simp only [rvl, rval]
  cases x.ev E st <;> rfl
theorem mkIfcV_agg (t : TypeId) (cs : List DV) : mkIfcV t (.agg cs) = .wrap (.ifa t) cs := nrfl _
theorem mkIfcV_ptr (t : TypeId) (o i j : Nat) : mkIfcV t (.ptr o i j) = .wrap (.ifc t) [.ptr o i j] := nrfl _
theorem mkIfcV_rp (t : TypeId) (row : List DV) (j : Nat) : mkIfcV t (.rp row j) = .wrap (.ifc t) [.rp row j] := nrfl _
theorem mkIfcV_int (t : TypeId) (k : IntKind) (n : Int) : mkIfcV t (.int k n) = .wrap (.ifc t) [.int k n] := nrfl _
theorem mkIfcV_str (t : TypeId) (s : List UInt8) : mkIfcV t (.str s) = .wrap (.ifc t) [.str s] := nrfl _
theorem mkIfcV_own (t : TypeId) (o i j : Nat) : mkIfcV t (.own o i j) = .wrap (.ifc t) [.own o i j] := nrfl _
theorem mkIfcV_sl (t : TypeId) (s : Nat) (rows : List (List DV)) (k : SK) : mkIfcV t (.sl s rows k) = .wrap (.ifc t) [.sl s rows k] := nrfl _
def asrtV (t : TypeId) : DV → Option DV
  | .wrap (.ifc t') [d] => if t' = t then some d else none
  | .wrap (.ifa t') cs => if t' = t then some (.agg cs) else none
  | _ => none
theorem rvl_asrt (t : TypeId) (x : Opd) : rvl E st (.asrt t x) = (asrtV t (x.ev E st)).map (·, st.objs) := by
  simp only [rvl, rval]
  generalize x.ev E st = d
  unfold asrtV
  split
  · dsimp only; split <;> rfl
  · dsimp only; split <;> rfl
  · rename_i h1 h2
    split
    · exact (h1 _ _ rfl).elim
    · exact (h2 _ _ rfl).elim
    · rfl
theorem asrtV_ifc (t : TypeId) (d : DV) : asrtV t (.wrap (.ifc t) [d]) = some d := by simp [asrtV]
theorem asrtV_ifa (t : TypeId) (cs : List DV) : asrtV t (.wrap (.ifa t) cs) = some (.agg cs) := by simp [asrtV]

def eqsV (ks : List CK) : DV → DV → Option Bool
  | .agg a, .agg b => eqCells ks a b
  | _, _ => none
theorem rvl_eqS (neg : Bool) (ks : List CK) (x y : Opd) : rvl E st (.eqS neg ks x y) = (eqsV ks (x.ev E st) (y.ev E st)).map fun e => (.bool (if neg then !e else e), st.objs) := by
  simp only [rvl, rval]
  cases x.ev E st <;> cases y.ev E st <;> rfl
theorem eqsV_agg (ks : List CK) (a b : List DV) : eqsV ks (.agg a) (.agg b) = eqCells ks a b := nrfl _
theorem eqC_nil : eqCells [] [] [] = some true := nrfl _
theorem eqC_i (ks : List CK) (k : IntKind) (a b : Int) (x y : List DV) : eqCells (.i :: ks) (.int k a :: x) (.int k b :: y) = (eqCells ks x y).map (decide (a = b) && ·) := by simp [eqCells]
theorem eqC_b (ks : List CK) (a b : Bool) (x y : List DV) : eqCells (.b :: ks) (.bool a :: x) (.bool b :: y) = (eqCells ks x y).map (decide (a = b) && ·) := by simp [eqCells]

def copyO (sz o off n : Nat) (objs : Objs) (a : Nat × List (List DV)) : Ob → Option (DV × Objs)
  | .arr s rows => if off + n ≤ rows.length ∧ s = sz ∧ (a.1 = sz ∨ a.2 = []) then some (.int .i64 (min a.2.length n : Nat), objs.set o (some (.arr sz (rows.take off ++ a.2.take (min a.2.length n) ++ rows.drop (off + min a.2.length n))))) else none
  | _ => none
def copyV (sz : Nat) (objs : Objs) : DV → Option (Nat × List (List DV)) → Option (DV × Objs)
  | .own o off n, some a => (objs[o]?).bind fun x => x.bind (copyO sz o off n objs a)
  | _, _ => none
theorem rvl_copy (sz : Nat) (x y : Opd) : rvl E st (.copy sz x y) = copyV sz st.objs (x.ev E st) (rowsOf st (y.ev E st)) := by
  simp only [rvl, rval]
  generalize rowsOf st (y.ev E st) = a
  cases x.ev E st <;> cases a <;> try rfl
  rename_i o off n a
  obtain ⟨s2, new⟩ := a
  simp only [copyV]
  generalize st.objs[o]? = x
  rcases x with _ | _ | ob <;> try rfl
  cases ob <;> rfl
theorem copyV_own (sz : Nat) (objs : Objs) (o off n : Nat) (a : Nat × List (List DV)) : copyV sz objs (.own o off n) (some a) = (objs[o]?).bind fun x => x.bind (copyO sz o off n objs a) := nrfl _
theorem copyO_arr (sz o off n : Nat) (objs : Objs) (a : Nat × List (List DV)) (s : Nat) (rows : List (List DV)) : copyO sz o off n objs a (.arr s rows) = if off + n ≤ rows.length ∧ s = sz ∧ (a.1 = sz ∨ a.2 = []) then some (.int .i64 (min a.2.length n : Nat), objs.set o (some (.arr sz (rows.take off ++ a.2.take (min a.2.length n) ++ rows.drop (off + min a.2.length n))))) else none := nrfl _
end

/-- A call whose law is not in the table: simp stops there, and leaves alone what is to hold behind it. -/
def CallH (E : Prg) (f : Nat) (vals : List DV) (T : Objs) (K : DV → Objs → Prop) [Tg K] (_ : True := trivial) : Prop := CallK E f vals T K
theorem callV_H (E : Prg) (f : Nat) (as : List DV) (T : Objs) (L : DV → Objs → Prop) : callV E none false f as T L = CallH E f as T L := nrfl _
/-- Code under a name, where simp stops. -/
def WpH (E : Prg) (F : FTab) (n : Nat) (c : RC) (Q : Exit → St → Prop) (st : St) [Tg Q] [Tg c] (_ : True := trivial) : Prop := c.wp E F n Q st
theorem tab_nil (f : Nat) (as : List DV) : tab [] f as = none := nrfl _
theorem resOf_nil (st : St) : resOf st [] = some (.tup []) := nrfl _
theorem vcB5 : type_of% (And.intro @callV_H <| And.intro @tab_nil <| @resOf_nil) := And.intro @callV_H <| And.intro @tab_nil <| @resOf_nil
theorem vcB4 : type_of% (And.intro @stV_inv <| And.intro @stV_eqP <| And.intro @rvl_eqP <| And.intro @nilP_ptr <| And.intro @nilP_rp <| And.intro @nilP_nil <| And.intro @stV_eqS <| And.intro @stV_copy <| And.intro @stV_mkfn <| And.intro @stV_mkIfc <| And.intro @stV_asrt <| And.intro @ot_fin <| And.intro @ot_fing <| And.intro @invV_some <| And.intro @calldV_clo <| And.intro @invOf_ifc <| And.intro @invOf_ifa <| And.intro @invRow_some <| And.intro @invRecv_self <| And.intro @invRecv_ptr <| And.intro @invRecv_rp <| And.intro @rvl_mkfn <| And.intro @rvl_mkIfc <| And.intro @mkIfcV_agg <| And.intro @mkIfcV_ptr <| And.intro @mkIfcV_rp <| And.intro @mkIfcV_int <| And.intro @mkIfcV_str <| And.intro @mkIfcV_own <| And.intro @mkIfcV_sl <| And.intro @rvl_asrt <| And.intro @asrtV_ifc <| And.intro @asrtV_ifa <| And.intro @rvl_eqS <| And.intro @eqsV_agg <| And.intro @eqC_nil <| And.intro @eqC_i <| And.intro @eqC_b <| And.intro @rvl_copy <| And.intro @copyV_own <| And.intro @copyO_arr <| And.intro @callV_p <| And.intro @app_p <| @spec_wp) :=
  (And.intro @stV_inv <| And.intro @stV_eqP <| And.intro @rvl_eqP <| And.intro @nilP_ptr <| And.intro @nilP_rp <| And.intro @nilP_nil <| And.intro @stV_eqS <| And.intro @stV_copy <| And.intro @stV_mkfn <| And.intro @stV_mkIfc <| And.intro @stV_asrt <| And.intro @ot_fin <| And.intro @ot_fing <| And.intro @invV_some <| And.intro @calldV_clo <| And.intro @invOf_ifc <| And.intro @invOf_ifa <| And.intro @invRow_some <| And.intro @invRecv_self <| And.intro @invRecv_ptr <| And.intro @invRecv_rp <| And.intro @rvl_mkfn <| And.intro @rvl_mkIfc <| And.intro @mkIfcV_agg <| And.intro @mkIfcV_ptr <| And.intro @mkIfcV_rp <| And.intro @mkIfcV_int <| And.intro @mkIfcV_str <| And.intro @mkIfcV_own <| And.intro @mkIfcV_sl <| And.intro @rvl_asrt <| And.intro @asrtV_ifc <| And.intro @asrtV_ifa <| And.intro @rvl_eqS <| And.intro @eqsV_agg <| And.intro @eqC_nil <| And.intro @eqC_i <| And.intro @eqC_b <| And.intro @rvl_copy <| And.intro @copyV_own <| And.intro @copyO_arr <| And.intro @callV_p <| And.intro @app_p <| @spec_wp)

end Go.Proofs.Ytaopaongpoecoaa
end
section
/- Objects whose last rows are let go of. -/
set_option linter.unusedVariables false
set_option linter.unusedSimpArgs false
namespace Go.Proofs.Ytaopaongpoecoaa
open Go.RowKit

/-- The same objects, some with fewer rows, some let go of. -/
def Trims (T T2 : Objs) : Prop := T2.length = T.length ∧ ∀ (k : Nat) (ob2 : Ob), T2[k]? = some (some ob2) → ∃ ob, T[k]? = some (some ob) ∧ ob2.sz = ob.sz ∧ ∃ m, ob2.rows = ob.rows.take m
theorem Trims.refl (T : Objs) : Trims T T := ⟨rfl, fun k ob h => ⟨ob, h, rfl, ob.rows.length, by rw [List.take_length]⟩⟩
theorem Trims.arr {T : Objs} {q s : Nat} {rows : List (List DV)} (m : Nat) (h : T[q]? = some (some (.arr s rows))) : Trims T (T.set q (some (.arr s (rows.take m)))) := by
  have hlt : q < T.length := (List.getElem?_eq_some_iff.1 h).1
  refine ⟨by simp, fun k ob2 hk => ?_⟩
  by_cases e : q = k
  · subst e
    rw [List.getElem?_set_self hlt] at hk
    obtain rfl := Option.some.inj (Option.some.inj hk)
    exact ⟨_, h, rfl, m, rfl⟩
  · rw [List.getElem?_set_ne e] at hk
    exact ⟨ob2, hk, rfl, ob2.rows.length, by rw [List.take_length]⟩
theorem LiveAt.trims {G : Gh} {w : World} {p : Place} {ob ob2 : Ob} (h : LiveAt G w p ob) (hs : ob2.sz = ob.sz) {m : Nat} (hr : ob2.rows = ob.rows.take m) : LiveAt G w p ob2 := by
  refine ⟨by rw [hs]; exact h.psz, ?_, fun row hrow => ?_, h.there, fun i j row c v hi hj hv => ?_, h.mko⟩
  · rw [hr, List.length_take]
    have := h.fits
    omega
  · rw [hr] at hrow
    exact h.size row (List.mem_of_mem_take hrow)
  · rw [hr, List.getElem?_take] at hi
    split at hi
    · exact h.holds i j row c v hi hj hv
    · cases hi
theorem Heap.trims {G : Gh} {T T2 : Objs} {w : World} (h : Heap G T w) (ht : Trims T T2) : Heap G T2 w := by
  obtain ⟨hl, ht⟩ := ht
  refine ⟨fun k p hk => by rw [hl]; exact h.pls k p hk, fun k ob hk => ?_, fun k k' r r' p p' m m' hk hk' => ?_, h.rdv, fun k r p m hk => ?_⟩
  · obtain ⟨ob', h1, h2, m, h3⟩ := ht k ob hk
    obtain ⟨p, hp, hv⟩ := h.live k ob' h1
    exact ⟨p, hp, hv.trims h2 h3⟩
  · obtain ⟨ob', h1, _⟩ := ht k r hk
    obtain ⟨ob2, h2, _⟩ := ht k' r' hk'
    exact h.sep k k' ob' ob2 p p' m m' h1 h2
  · obtain ⟨ob', h1, _⟩ := ht k r hk
    exact h.rds k ob' p m h1
theorem Frm.trims {C : Ctx} {G : Gh} {T T2 : Objs} {w : World} (h : Frm C G T w) (ht : Trims T T2) : Frm C G T2 w :=
  ⟨h.os, h.tape, h.output, h.size, h.blk, h.cell, h.frz, fun k r p m hk => let ⟨ob', h1, _⟩ := ht.2 k r hk; h.mine k ob' p m h1, h.rdn, h.le, h.mko⟩
theorem GCalls.trims {E : Prg} {f : Nat} {args : List DV} {T : Objs} {R : DV → Objs → Prop} (h : GCalls E f args T fun d T' => ∃ T2, Trims T' T2 ∧ R d T2) : GCalls E f args T R :=
  fun G w vs h1 h2 h3 h4 => Calls.mono (h G w vs h1 h2 h3 h4) fun e w' ⟨v, r, T', G', a, ⟨T2, ht, hR⟩, hlen, hrel, hh, hf⟩ => ⟨v, r, T2, G', a, hR, by rw [ht.1]; exact hlen, hrel, hh.trims ht, hf.trims ht⟩
/-- A function's call; behind it objects may be told with fewer rows. -/
theorem CallK.of_fnT {E : Prg} {F : FTab} (hF : FOk E F) {f : Nat} {ann : List Ann} {rf : RFn} {args : List DV} {T : Objs} {K : DV → Objs → Prop} (hc : compFn E.P ann f = some rf) (hargs : args.length ≤ rf.n)
    (h : rf.code.wp E F rf.n (finQ rf.res fun d T' => T.length ≤ T'.length ∧ ∃ T2, Trims T' T2 ∧ K d T2) ⟨initEnv 0 args, T⟩) : CallK E f args T K := CallK.all (GCalls.trims (GCalls.of_fn hF hc hargs h))
end Go.Proofs.Ytaopaongpoecoaa
end
section
/- A nil slice in a variable, seen as an object without a row. -/
set_option linter.unusedVariables false
set_option linter.unusedSimpArgs false
namespace Go.Proofs.Ytaopaongpoecoaa
open Go.RowKit

theorem Heap.reRel {G : Gh} {T : Objs} {w : World} {k : Nat} {ob ob2 : Ob} (h : Heap G T w) (hk : T[k]? = some (some ob)) (hs : ob2.sz = ob.sz) (hl : ob2.rows.length ≤ ob.rows.length) (hrow : ∀ row ∈ ob2.rows, row.length = ob.sz)
    (hc : ∀ (i j : Nat) row c, ob2.rows[i]? = some row → row[j]? = some c → ∃ row' c', ob.rows[i]? = some row' ∧ row'[j]? = some c' ∧ ∀ v, Rel G c' v → Rel G c v) : Heap G (T.set k (some ob2)) w := by
  have hlt : k < T.length := (List.getElem?_eq_some_iff.1 hk).1
  have old : ∀ j o, (T.set k (some ob2))[j]? = some (some o) → ∃ o', T[j]? = some (some o') := fun j o hj => by
    by_cases e : k = j
    · subst e; exact ⟨ob, hk⟩
    · rw [List.getElem?_set_ne e] at hj; exact ⟨o, hj⟩
  refine ⟨fun j p hj => by rw [List.length_set]; exact h.pls j p hj, fun j o hj => ?_, fun j j' r r' p p' m m' hj hj' => ?_, h.rdv, fun j r p m hj => ?_⟩
  · by_cases e : k = j
    · subst e
      rw [List.getElem?_set_self hlt] at hj
      obtain rfl := Option.some.inj (Option.some.inj hj)
      obtain ⟨p, hp, hv⟩ := h.live k ob hk
      refine ⟨p, hp, by rw [hs]; exact hv.psz, Nat.le_trans hl hv.fits, fun row hr => by rw [hv.psz]; exact hrow row hr, hv.there, fun i j row c v hi hj hv' => ?_, hv.mko⟩
      obtain ⟨row', c', h1, h2, h3⟩ := hc i j row c hi hj
      exact h3 v (hv.holds i j row' c' v h1 h2 hv')
    · rw [List.getElem?_set_ne e] at hj; exact h.live j o hj
  · obtain ⟨o1, h1⟩ := old j r hj
    obtain ⟨o2, h2⟩ := old j' r' hj'
    exact h.sep j j' o1 o2 p p' m m' h1 h2
  · obtain ⟨o1, h1⟩ := old j r hj
    exact h.rds j o1 p m h1
theorem Frm.reRel {C : Ctx} {G : Gh} {T : Objs} {w : World} {k : Nat} {ob ob2 : Ob} (h : Frm C G T w) (hk : T[k]? = some (some ob)) : Frm C G (T.set k (some ob2)) w :=
  ⟨h.os, h.tape, h.output, h.size, h.blk, h.cell, h.frz, fun j r p m hj => by
    by_cases e : k = j
    · subst e; exact h.mine k ob p m hk
    · rw [List.getElem?_set_ne e] at hj; exact h.mine j r p m hj, h.rdn, h.le, h.mko⟩
/-- Behind a call, a nil slice in a variable's first cell may be seen as an object without a row. -/
theorem GCalls.nilbox {E : Prg} {f : Nat} {args : List DV} {T : Objs} {R : DV → Objs → Prop} (h : GCalls E f args T fun d T' => ∃ (k s sz : Nat) (l : List DV), T'[k]? = some (some (.box (.sl s [] .nil :: l))) ∧ R d (T'.set k (some (.box (.own T'.length 0 0 :: l))) ++ [some (.arr sz [])])) : GCalls E f args T R := by
  intro G w vs g1 g2 g3 g4
  refine Calls.mono (h G w vs g1 g2 g3 g4) fun e w' ⟨v, r, T', G', a, ⟨k, s, sz, l, hk, hR⟩, hlen, hrel, hh, hf⟩ => ?_
  have hlt : k < T'.length := (List.getElem?_eq_some_iff.1 hk).1
  have hr : RelG E ⟨w, G, cellsOf G T, 1⟩ G' ⟨[(0, r)], T'⟩ ⟨#[v], []⟩ w' := by
    refine ⟨fun t => ?_, rfl, rfl, hh, hf.ctx, fun g row hg => (g1 g row hg).mono hf.le⟩
    by_cases e : t = 0
    · subst e; exact hrel
    · have : St.get ⟨[(0, r)], T'⟩ t = .undef := by
        simp only [St.get, St.look]
        rw [if_neg (fun h => e h.symm)]
      rw [this]; exact .undef _
  have h2 := hr.newEmpty sz
  have hk2 : (T' ++ [some (Ob.arr sz [])])[k]? = some (some (.box (.sl s [] .nil :: l))) := by rw [List.getElem?_append_left hlt]; exact hk
  have hset : (T' ++ [some (Ob.arr sz [])]).set k (some (.box (.own T'.length 0 0 :: l))) = T'.set k (some (.box (.own T'.length 0 0 :: l))) ++ [some (.arr sz [])] := List.set_append_left _ _ hlt
  refine ⟨v, r, _, G'.more T'.length ⟨0, 0, sz, 0⟩, a, hR, by simp; omega, ?_, ?_, ?_⟩
  · exact h2.env 0
  · rw [← hset]
    refine Heap.reRel h2.heap hk2 rfl (by simp [Ob.rows]) (fun row hr => by simp [Ob.rows] at hr; subst hr; simp [Ob.sz]) fun i j row c hi hj => ?_
    rcases i with _ | i
    · simp [Ob.rows] at hi; subst hi
      rcases j with _ | j
      · simp at hj; subst hj
        refine ⟨_, .sl s [] .nil, rfl, rfl, fun v hv => ?_⟩
        cases hv with
        | sl _ _ _ p len cap b' o vals h5 h6 h7 h8 _ _ _ =>
          have hl : len = 0 := by simpa using h5
          subst hl
          have hc0 : cap = 0 := h6.2
          subst hc0
          exact .own _ 0 0 ⟨0, 0, sz, 0⟩ p 0 (by simp [Gh.more]) rfl (Nat.le_refl _) (fun h => by omega)
      · exact ⟨_, c, rfl, by simpa using hj, fun v hv => hv⟩
    · simp [Ob.rows] at hi
  · rw [← hset]
    exact Frm.reRel (h2.frm.ctx (m := 0)) hk2
end Go.Proofs.Ytaopaongpoecoaa
end
section
/- Tables of objects: what stands where, in simp's words; what other objects keep. -/
set_option linter.unusedVariables false
set_option linter.unusedSimpArgs false
namespace Go.Proofs.Ytaopaongpoecoaa
open Go.RowKit
theorem tb_geti {α : Type} (T l : List α) (i : Nat) : (T ++ l)[T.length + i]? = l[i]? := by rw [List.getElem?_append_right (by omega)]; congr 1; omega
theorem tb_get0 {α : Type} (T l : List α) (a : α) : (T ++ a :: l)[T.length]? = some a := by simp
theorem tb_seti {α : Type} (T l : List α) (i : Nat) (y : α) : (T ++ l).set (T.length + i) y = T ++ l.set i y := by
  rw [List.set_append_right _ _ (by omega)]; congr 2; omega
theorem tb_set0 {α : Type} (T l : List α) (a y : α) : (T ++ a :: l).set T.length y = T ++ y :: l := by
  rw [List.set_append_right _ _ (Nat.le_refl _)]; simp
theorem tb_sgeti {α : Type} (T l : List α) (o i : Nat) (x : α) : (T.set o x ++ l)[T.length + i]? = l[i]? := by
  have := tb_geti (T.set o x) l i; rwa [List.length_set] at this
theorem tb_sget0 {α : Type} (T l : List α) (o : Nat) (x a : α) : (T.set o x ++ a :: l)[T.length]? = some a := by
  have := tb_get0 (T.set o x) l a; rwa [List.length_set] at this
theorem tb_sseti {α : Type} (T l : List α) (o i : Nat) (x y : α) : (T.set o x ++ l).set (T.length + i) y = T.set o x ++ l.set i y := by
  have := tb_seti (T.set o x) l i y; rwa [List.length_set] at this
theorem tb_sset0 {α : Type} (T l : List α) (o : Nat) (x a y : α) : (T.set o x ++ a :: l).set T.length y = T.set o x ++ y :: l := by
  have := tb_set0 (T.set o x) l a y; rwa [List.length_set] at this
theorem tb_lt {α : Type} {T : List α} {q : Nat} {x : α} (h : T[q]? = some x) : q < T.length := (List.getElem?_eq_some_iff.1 h).1
/-- What is known of an object holds with more objects behind. -/
theorem tb_f {α : Type} {T : List α} {q : Nat} {x : α} (h : T[q]? = some x) (l : List α) : (T ++ l)[q]? = some x := by
  rw [List.getElem?_append_left (tb_lt h)]; exact h
theorem tb_sf {α : Type} {T : List α} {q : Nat} {x : α} (h : T[q]? = some x) (l : List α) (y : α) : (T ++ l).set q y = T.set q y ++ l := List.set_append_left _ _ (tb_lt h)
theorem tb_ss {α : Type} {T : List α} {q : Nat} {x : α} (h : T[q]? = some x) (y : α) : (T.set q y)[q]? = some y := List.getElem?_set_self (tb_lt h)
theorem tb_ssl {α : Type} {T : List α} {q : Nat} {x : α} (h : T[q]? = some x) (y : α) (l : List α) : (T.set q y ++ l)[q]? = some y := tb_f (tb_ss h y) l
theorem tb_sfl {α : Type} {T : List α} {q : Nat} {x : α} (h : T[q]? = some x) (z y : α) (l : List α) : (T.set q z ++ l).set q y = T.set q y ++ l := by
  rw [tb_sf (tb_ss h z), List.set_set]
/-- It's another object. -/
theorem tb_ne {α : Type} {T : List α} {k j : Nat} {x : α} (h : T[k]? = some x) (y : α) (hne : k ≠ j) : (T.set j y)[k]? = some x := by rw [List.getElem?_set_ne (Ne.symm hne)]; exact h
def idO (E : Prg) (st : St) (p : Opd) : Option Opd → Prop
  | none => True
  | some y => idNe (Opd.ev E st y) (Opd.ev E st p)
theorem idO_none (E : Prg) (st : St) (p : Opd) : idO E st p none = True := nrfl _
theorem idO_some (E : Prg) (st : St) (p y : Opd) : idO E st p (some y) = idNe (Opd.ev E st y) (Opd.ev E st p) := nrfl _
theorem clearOf_slice (E : Prg) (st : St) (sz : Nat) (x p : Opd) (lo hi mx : Option Opd) : clearOf E st (.slice sz x lo hi mx) p = (idNe (Opd.ev E st x) (Opd.ev E st p) ∧ idO E st p lo ∧ idO E st p hi ∧ idO E st p mx) := by
  cases lo <;> cases hi <;> cases mx <;> simp [clearOf, ROp.opds, optOpd, idNe, idO]
theorem tb_clear : type_of% (And.intro @idO_none <| And.intro @idO_some <| @clearOf_slice) := And.intro @idO_none <| And.intro @idO_some <| @clearOf_slice
theorem tb_at : type_of% (And.intro @tb_clear <| And.intro @tb_geti <| And.intro @tb_get0 <| And.intro @tb_seti <| And.intro @tb_set0 <| And.intro @tb_sgeti <| And.intro @tb_sget0 <| And.intro @tb_sseti <| @tb_sset0) :=
  And.intro @tb_clear <| And.intro @tb_geti <| And.intro @tb_get0 <| And.intro @tb_seti <| And.intro @tb_set0 <| And.intro @tb_sgeti <| And.intro @tb_sget0 <| And.intro @tb_sseti <| @tb_sset0
/-- All that simp is to know of an object. -/
theorem tb_all {T : Objs} {q : Nat} {x : Option Ob} (h : T[q]? = some x) : type_of% (And.intro h <| And.intro (tb_f h) <| And.intro (tb_sf h) <| And.intro (tb_ss h) <| And.intro (tb_ssl h) <| tb_sfl h) :=
  And.intro h <| And.intro (tb_f h) <| And.intro (tb_sf h) <| And.intro (tb_ss h) <| And.intro (tb_ssl h) <| tb_sfl h
/-- Other objects are as they were. -/
def Keep (T T' : Objs) (ids : List Nat) : Prop := T.length ≤ T'.length ∧ ∀ (k : Nat) ob, k ∉ ids → T[k]? = some (some ob) → T'[k]? = some (some ob)
theorem Keep.refl (T : Objs) (ids : List Nat) : Keep T T ids := ⟨Nat.le_refl _, fun _ _ _ h => h⟩
theorem Keep.app (T l : Objs) (ids : List Nat) : Keep T (T ++ l) ids := ⟨by simp, fun _ _ _ h => tb_f h l⟩
theorem Keep.trans {A B C : Objs} {i j k : List Nat} (h1 : Keep A B i) (h2 : Keep B C j) (hi : ∀ x ∈ i, x ∈ k) (hj : ∀ x ∈ j, x ∈ k ∨ A.length ≤ x) : Keep A C k :=
  ⟨Nat.le_trans h1.1 h2.1, fun x ob hx ha => h2.2 x ob (fun hm => by
    rcases hj x hm with h | h
    · exact hx h
    · have := tb_lt ha; omega) (h1.2 x ob (fun hm => hx (hi x hm)) ha)⟩
theorem Keep.new {A B C : Objs} {j : List Nat} (h1 : Keep A B []) (h2 : Keep B C j) (hj : ∀ x ∈ j, A.length ≤ x) : Keep A C [] := h1.trans h2 (by simp) fun x hx => .inr (hj x hx)
theorem Keep.newApp {A B : Objs} (h1 : Keep A B []) (l : Objs) : Keep A (B ++ l) [] := h1.trans (Keep.app B l []) (by simp) (by simp)
theorem Keep.at {A B : Objs} {i : List Nat} (h : Keep A B i) {k : Nat} {ob : Ob} (ha : A[k]? = some (some ob)) (hk : k ∉ i) : B[k]? = some (some ob) := h.2 k ob hk ha
end Go.Proofs.Ytaopaongpoecoaa
end
section
/- A law's contract out of its walk from the empty table. -/
set_option linter.unusedVariables false
set_option linter.unusedSimpArgs false
namespace Go.Proofs.Ytaopaongpoecoaa
open Go.RowKit Go.ChangeShapes Go.WideShapes
theorem conf_ints {k : IntKind} {d : DV} (h : Conf (.sl [.int k]) d) : ∃ l, d = .sl 1 (intRows k l) .any ∧ (∀ n ∈ l, k.min ≤ n ∧ n ≤ k.max) := by
  cases h with
  | sl row rows h1 h2 h3 =>
    refine ⟨ints rows, ?_, ?_⟩
    · congr 1
      have : ∀ R : List (List DV), (∀ r ∈ R, r.length = 1) → (∀ r ∈ R, ∀ (i : Nat) c d, [CS.int k][i]? = some c → r[i]? = some d → Conf c d) → R = intRows k (ints R) := by
        intro R
        induction R with
        | nil => intro _ _; rfl
        | cons r R ih =>
          intro g1 g2
          have g3 := g1 r (by simp)
          match r, g3 with
          | [c], _ =>
            have g4 := g2 [c] (by simp) 0 (.int k) c rfl rfl
            cases g4 with
            | int k n a b =>
              have := ih (fun r hr => g1 r (by simp [hr])) (fun r hr => g2 r (by simp [hr]))
              conv => lhs; rw [this]
              simp [ints, intRows]
      exact this rows h2 h3
    · intro n hn
      simp only [ints, List.mem_map] at hn
      obtain ⟨r, hr, rfl⟩ := hn
      have g3 := h2 r hr
      match r, g3 with
      | [c], _ =>
        have g4 := h3 [c] hr 0 (.int k) c rfl rfl
        cases g4 with
        | int k n a b => exact ⟨a, b⟩
/-- A slice's rows, each as its cells conform. -/
theorem conf_rows {cs : List CS} {d : DV} (h : Conf (.sl cs) d) : ∃ rows, d = .sl cs.length rows .any ∧ ∀ r ∈ rows, r.length = cs.length ∧ ∀ (i : Nat) c d, cs[i]? = some c → r[i]? = some d → Conf c d := by
  cases h with
  | sl row rows h1 h2 h3 => exact ⟨rows, rfl, fun r hr => ⟨h2 r hr, h3 r hr⟩⟩
theorem rows_map {α : Type} {f : α → List DV} {P : α → Prop} : ∀ {rows : List (List DV)}, (∀ r ∈ rows, ∃ x, r = f x ∧ P x) → ∃ l : List α, rows = l.map f ∧ ∀ x ∈ l, P x
  | [], _ => ⟨[], rfl, by simp⟩
  | r :: rows, h => by
    obtain ⟨x, hx, hp⟩ := h r (by simp)
    obtain ⟨l, hl, hpl⟩ := rows_map fun r hr => h r (List.mem_cons_of_mem _ hr)
    exact ⟨x :: l, by simp [hx, hl], by simp [hp]; exact hpl⟩
theorem conf_int {k : IntKind} {d : DV} (h : Conf (.int k) d) : ∃ n, d = .int k n ∧ k.min ≤ n ∧ n ≤ k.max := by
  cases h with
  | int k n a b => exact ⟨n, rfl, a, b⟩
theorem conf_bool {d : DV} (h : Conf .bool d) : ∃ b, d = .bool b := by
  cases h with
  | bool b => exact ⟨b, rfl⟩
theorem confA_rows {cs : List CS} {d : DV} (h : ConfA (false, [.sl cs]) d) : ∃ rows, d = .sl cs.length rows .any ∧ ∀ r ∈ rows, r.length = cs.length ∧ ∀ (i : Nat) c d, cs[i]? = some c → r[i]? = some d → Conf c d := by
  obtain ⟨c, h1, h2⟩ := h
  obtain rfl := (List.cons.inj h1).1
  exact conf_rows h2
theorem confA_ints {k : IntKind} {d : DV} (h : ConfA (false, [.sl [.int k]]) d) : ∃ l, d = .sl 1 (intRows k l) .any ∧ (∀ n ∈ l, k.min ≤ n ∧ n ≤ k.max) := by
  obtain ⟨c, h1, h2⟩ := h
  obtain rfl := (List.cons.inj h1).1
  exact conf_ints h2
theorem confA_int {k : IntKind} {d : DV} (h : ConfA (false, [.int k]) d) : ∃ n, d = .int k n ∧ k.min ≤ n ∧ n ≤ k.max := by
  obtain ⟨c, h1, h2⟩ := h
  obtain rfl := (List.cons.inj h1).1
  cases h2 with
  | int k n a b => exact ⟨n, rfl, a, b⟩
theorem confA_bool {d : DV} (h : ConfA (false, [.bool]) d) : ∃ b, d = .bool b := by
  obtain ⟨c, h1, h2⟩ := h
  obtain rfl := (List.cons.inj h1).1
  cases h2 with
  | bool b => exact ⟨b, rfl⟩
theorem inK_of {k : IntKind} {l : List Int} (h : ∀ n ∈ l, k.min ≤ n ∧ n ≤ k.max) (hl : l.length ≤ 1000000) : inK k l := ⟨by omega, h⟩
section
variable {H : Type} {enc : TypeId × Value → H} {P : Program} {w : World} {base : Nat} {spare : Nat → Bool} {held : Bool}
theorem CallK.g {E : Prg} {f : Nat} {args : List DV} {K : DV → Objs → Prop} {R : DV → Prop} (h : CallK E f args [] K) (hK : ∀ r T, K r T → R r) : GCalls E f args [] fun r _ => R r := by
  obtain ⟨T1, Q, h1, h2, h3, h4⟩ := h
  have : T1 = [] := List.length_eq_zero_iff.1 h1
  subst this
  intro G w vs g1 g2 g3 g4
  refine (h3 G w vs g1 g2 g3 g4).mono fun e w' ⟨v, r, T', G', a, b, c, d⟩ => ⟨v, r, T', G', a, ?_, c, d⟩
  obtain ⟨T2, _, k⟩ := h4 r T' b (Nat.zero_le _)
  exact hK r T2 k
theorem law_contractG {E : Prg} {f : FuncId} {fn : Func} {s : ChangeSpec} {tb : TypeId} {k : Nat} {l : List (Bool × List CS)} {apart fresh handsOn : Bool} (hres : fn.resultTypes = #[tb]) (hb : E.P.underlying tb = some .bool)
    (hs : ∀ ds : List (DataW H), ds.length = k → s.fn H ds = { results := [.lit (.bool true)], args := ds }) (hsv : s.vars = []) (hk : fn.params.size = k) (hsh : asAll E.P fn.params.toList = some l)
    (hG : GlobOk E (Gh.all w)) (hlaw : ∀ dv, ConfL l dv → GCalls E f dv [] fun r _ => r = .bool true) {b0 : Nat} {args : Array Value} {ds gs : List (DataW H)} {before : List MemPlace}
    (hval : ∀ (j : Nat) t v, fn.params[j]? = some t → args[j]? = some v → Value.okWide E.P w .any b0 t v) (hW : DataW.Whole enc E.P fn.params.toList s.vars apart w args.toList ds gs before) :
    Calls E.P f args w fun e W' => ∃ v, e = .returned v ∧ s.post enc E.P fn apart fresh handsOn false w args v W' := by
  have hW' := hW
  obtain ⟨p, q, hA, hV, rfl, hfz, hnd⟩ := hW
  obtain ⟨dv, hc, hl, hrel⟩ := args_rel hsh (fun j t v ht hv => hval j t v (by simpa using ht) (by simpa using hv)) hA
  rw [hsv] at hV
  obtain ⟨rfl, rfl⟩ : gs = [] ∧ q = [] := by
    cases gs with
    | nil => exact ⟨rfl, hV⟩
    | cons => exact hV.elim
  have hdl : ds.length = k := by rw [trodAll_len hA]; simpa using hk
  have h := hlaw dv hc (Gh.all w) w args hG (Gh.all_heap w) (by simpa using hl.symm) (fun i d hd => by
    have := hrel i d hd
    simpa [Array.getD_eq_getD_getElem?, List.getD_eq_getElem?_getD] using this)
  refine h.mono fun e W' ⟨v, r, T', G', he, hr, _, hrv, hheap, hfrm⟩ => ?_
  subst he hr
  have hno : ∀ a, ¬ cellsOf (Gh.all w) [] a := fun a ⟨k, ob, p, m, h1, _⟩ => by simp at h1
  have hblk : ∀ b : Nat, b < w.heap.size → W'.heap[b]? = w.heap[b]? := fun b hb => hfrm.blk b hb fun o => hno _
  have hv : v = .bool true := by cases hrv; rfl
  subst hv
  refine ⟨_, rfl, ?_⟩
  rw [List.append_nil] at hfz hnd hW'
  have hsfn := hs ds hdl
  have hlt : ∀ x ∈ p, x.block < w.heap.size := hW'.lt
  have hres' : ∀ (b : Nat) (sp : Nat → Bool) (hd : Bool), DataW.TrodAll enc E.P W' b sp hd fn.resultTypes.toList ((Value.bool true).resultList fn.resultTypes.size) [.lit (.bool true)] [] := fun b sp hd => by
    rw [hres]
    exact trodAll_cons_mk (shut_bool hb _) trodAll_mk0
  refine ⟨ds, [], p, [], p, [], hW', ?_, ?_, ?_, ⟨hfrm.os, hfrm.output, fun i hi => ?_⟩, fun h => by cases h⟩
  · rw [List.append_nil, hsfn]; exact hres' _ _ _
  · rw [List.append_nil, hsfn]; exact trodAll_again hblk hsh hA fun x hx => by simpa using hlt x hx
  · rw [List.append_nil, hsfn, hsv]; rfl
  · rw [hblk i hi]
    split
    · rename_i h1 h2; rw [h1] at h2; obtain ⟨rfl, rfl, rfl⟩ := Obj.cells.injEq .. ▸ Option.some.inj h2; exact ⟨rfl, rfl, rfl, fun _ _ => rfl⟩
    · rename_i h1 h2; rw [h1] at h2; obtain ⟨rfl, rfl⟩ := Obj.map.injEq .. ▸ Option.some.inj h2; exact Or.inr ⟨rfl, rfl⟩
    · rfl
end
end Go.Proofs.Ytaopaongpoecoaa
end
section
/- Own slices that are let go of: here and there at will (a state's relation, loops, results). -/
set_option linter.unusedVariables false
set_option linter.unusedSimpArgs false
namespace Go.Proofs.Ytaopaongpoecoaa
open Go.RowKit
/-- Cells of which less is known. -/
structure WkS (st st' : St) : Prop where
  env : ∀ t, st'.get t = st.get t
  len : st'.objs.length = st.objs.length
  obj : ∀ (k : Nat) ob', st'.objs[k]? = some (some ob') → ∃ ob, st.objs[k]? = some (some ob) ∧ frOb wk0 ob ob'
theorem RelG.wkS {E : Prg} {C : Ctx} {G : Gh} {st st' : St} {a : Act} {w : World} (h : RelG E C G st a w) (hF : WkS st st') : RelG E C G st' a w := by
  refine ⟨fun t => by rw [hF.env t]; exact h.env t, h.num, h.defs, ⟨?_, ?_, ?_, h.heap.rdv, ?_⟩, ⟨h.frm.os, h.frm.tape, h.frm.output, h.frm.size, h.frm.blk, h.frm.cell, h.frm.frz, ?_, h.frm.rdn, h.frm.le, h.frm.mko⟩, h.glob⟩
  · intro k q hq
    rw [hF.len]; exact h.heap.pls k q hq
  · intro k r hk
    obtain ⟨r', hk', hfr⟩ := hF.obj k r hk
    obtain ⟨q, hq, hlq⟩ := h.heap.live k r' hk'
    exact ⟨q, hq, frOb_live (.refl _) (fun c c' v hc r => wk0_rel hc r) hfr hlq⟩
  · intro k k' r r' q q' m m' hk hk' hne hq hq' hm hm'
    obtain ⟨s, h1, _⟩ := hF.obj k r hk
    obtain ⟨s', h1', _⟩ := hF.obj k' r' hk'
    exact h.heap.sep k k' s s' q q' m m' h1 h1' hne hq hq' hm hm'
  · intro k r q m hk hq hm
    obtain ⟨s, h1, _⟩ := hF.obj k r hk
    exact h.heap.rds k s q m h1 hq hm
  · intro k r q m hk hq hm
    obtain ⟨s, h1, _⟩ := hF.obj k r hk
    exact h.frm.mine k s q m h1 hq hm
/-- Step by step: what is let go of, what is forgotten. -/
inductive Frzs : St → St → Prop where
  | refl (st : St) : Frzs st st
  | frz {a b c : St} (o sz : Nat) (rows : List (List DV)) : FrzS o sz rows a b → Frzs b c → Frzs a c
  | wk {a b c : St} : a.wk b → Frzs b c → Frzs a c
  | cell {a b c : St} : WkS a b → Frzs b c → Frzs a c
theorem Frzs.trans {a b c : St} (h : Frzs a b) (k : Frzs b c) : Frzs a c := by
  induction h with
  | refl => exact k
  | frz o sz rows h1 _ ih => exact .frz o sz rows h1 (ih k)
  | wk h1 _ ih => exact .wk h1 (ih k)
  | cell h1 _ ih => exact .cell h1 (ih k)
theorem RelSt.frzs {E : Prg} {C : Ctx} {a : Act} {w : World} {st st' : St} (h : RelSt E C st a w) (hF : Frzs st st') : RelSt E C st' a w := by
  induction hF with
  | refl => exact h
  | frz o sz rows h1 _ ih =>
    obtain ⟨G, h⟩ := h
    exact ih (h.frzS h1)
  | wk h1 _ ih => exact ih (h.wk h1)
  | cell h1 _ ih =>
    obtain ⟨G, h⟩ := h
    exact ih ⟨G, h.wkS h1⟩
theorem FrzS_len {o sz : Nat} {rows : List (List DV)} {a b : St} (h : FrzS o sz rows a b) : b.objs.length = a.objs.length := h.len
theorem Frzs.len {a b : St} (h : Frzs a b) : b.objs.length = a.objs.length := by
  induction h with
  | refl => rfl
  | frz o sz rows h1 _ ih => rw [ih, h1.len]
  | wk h1 _ ih => rw [ih]; exact (objsWk_len h1.2).1
  | cell h1 _ ih => rw [ih]; exact h1.len
theorem GCalls.frzs {E : Prg} {f : Nat} {args : List DV} {T : Objs} {R : DV → Objs → Prop} (h : GCalls E f args T fun d T' => ∃ d' T'', Frzs ⟨[(0, d)], T'⟩ ⟨[(0, d')], T''⟩ ∧ R d' T'') : GCalls E f args T R := by
  intro G w vs g1 g2 g3 g4
  refine Calls.mono (h G w vs g1 g2 g3 g4) fun e w' ⟨v, r, T', G', a, ⟨d', T'', hF, hR⟩, hl, hrel, hh, hf⟩ => ?_
  have hr : RelSt E ⟨w, G, cellsOf G T, 1⟩ ⟨[(0, r)], T'⟩ ⟨#[v], []⟩ w' := by
    refine ⟨G', fun t => ?_, rfl, rfl, hh, hf.ctx, fun g row hg => (g1 g row hg).mono hf.le⟩
    by_cases e : t = 0
    · subst e; exact hrel
    · have : St.get ⟨[(0, r)], T'⟩ t = .undef := by
        simp only [St.get, St.look]
        rw [if_neg (fun h => e h.symm)]
      rw [this]; exact .undef _
  obtain ⟨G2, h2⟩ := hr.frzs hF
  exact ⟨v, d', T'', G2, a, hR, by rw [show T''.length = T'.length from hF.len]; exact hl, h2.env 0, h2.heap, h2.frm.ctx⟩
/-- A function's law out of its code, with what its result lets go of. -/
theorem CallK.of_fnF {E : Prg} {F : FTab} (hF : FOk E F) {f : Nat} {ann : List Ann} {rf : RFn} {args : List DV} {T : Objs} {K : DV → Objs → Prop} (hc : compFn E.P ann f = some rf) (hargs : args.length ≤ rf.n)
    (h : rf.code.wp E F rf.n (finQ rf.res fun d T' => T.length ≤ T'.length ∧ ∃ d' T'', Frzs ⟨[(0, d)], T'⟩ ⟨[(0, d')], T''⟩ ∧ K d' T'') ⟨initEnv 0 args, T⟩) : CallK E f args T K :=
  CallK.all (GCalls.frzs (GCalls.of_fn hF hc hargs h))
theorem look_single {T : Objs} {d : DV} (t : Nat) : St.get ⟨[(0, d)], T⟩ t = if t = 0 then d else .undef := by
  simp only [St.get, St.look]
  by_cases h : t = 0
  · subst h; simp
  · rw [if_neg h, if_neg (fun e => h e.symm)]
/-- A result that is an own slice. -/
theorem Frzs.own {T : Objs} {q off n sz : Nat} {rows : List (List DV)} (h : T[q]? = some (some (.arr sz rows))) (hn : off + n ≤ rows.length) : Frzs ⟨[(0, .own q off n)], T⟩ ⟨[(0, .sl sz ((rows.drop off).take n) .any)], T.set q none⟩ := by
  refine .frz q sz rows ⟨h, fun t => ?_, by simp, fun k ob' hk => ?_⟩ (.refl _)
  · rw [look_single, look_single]
    split
    · right; simp [DV.frzT, DV.frzA, DV.frz0, hn]
    · exact .inl rfl
  · rw [getElem?_set] at hk
    by_cases e : q = k
    · rw [if_pos e] at hk; split at hk <;> simp at hk
    · rw [if_neg e] at hk; exact ⟨fun e' => e e'.symm, ob', hk, frOb.refl (fr0.refl _ _ _) _⟩
/-- An object within another one's rows. -/
theorem Frzs.inner {env : List (Nat × DV)} {T : Objs} {p q s sz : Nat} {r rows rows' : List (List DV)} (hp : T[p]? = some (some (.arr s r))) (hq : T[q]? = some (some (.arr sz rows))) (hne : p ≠ q)
    (hr : rows'.length = rows.length ∧ ∀ (i : Nat) row', rows'[i]? = some row' → ∃ row, rows[i]? = some row ∧ frRow (fr0 p s r) row row') : Frzs ⟨env, T⟩ ⟨env, (T.set p none).set q (some (.arr sz rows'))⟩ := by
  have hlt := tb_lt hq
  refine .frz (b := ⟨env, (T.set p none).set q (some (.arr sz rows'))⟩) p s r ⟨hp, fun t => .inl rfl, by simp, fun k ob' hk => ?_⟩ (.refl _)
  simp only at hk
  rw [getElem?_set] at hk
  by_cases e : q = k
  · subst e
    rw [if_pos rfl, if_pos (by simpa using hlt)] at hk
    obtain rfl : Ob.arr sz rows' = ob' := by simpa using hk
    exact ⟨fun e => hne e.symm, _, hq, rfl, hr.1, hr.2⟩
  · rw [if_neg e, getElem?_set] at hk
    by_cases e2 : p = k
    · rw [if_pos e2] at hk; split at hk <;> simp at hk
    · rw [if_neg e2] at hk; exact ⟨fun e' => e2 e'.symm, ob', hk, frOb.refl (fr0.refl _ _ _) _⟩
theorem wk0_self (d : DV) : wk0 d d := by cases d <;> simp [wk0]
/-- Rows of which less is known. -/
theorem Frzs.rows {env : List (Nat × DV)} {T : Objs} {q sz : Nat} {rows rows' : List (List DV)} (hq : T[q]? = some (some (.arr sz rows)))
    (hr : rows'.length = rows.length ∧ ∀ (i : Nat) row', rows'[i]? = some row' → ∃ row, rows[i]? = some row ∧ frRow wk0 row row') : Frzs ⟨env, T⟩ ⟨env, T.set q (some (.arr sz rows'))⟩ := by
  have hlt := tb_lt hq
  refine .cell (b := ⟨env, T.set q (some (.arr sz rows'))⟩) ⟨fun t => rfl, by simp, fun k ob' hk => ?_⟩ (.refl _)
  simp only at hk
  rw [getElem?_set] at hk
  by_cases e : q = k
  · subst e
    rw [if_pos rfl, if_pos hlt] at hk
    obtain rfl : Ob.arr sz rows' = ob' := by simpa using hk
    exact ⟨_, hq, rfl, hr.1, hr.2⟩
  · rw [if_neg e] at hk; exact ⟨ob', hk, frOb.refl wk0_self _⟩
/-- Rows with one more row behind: only that one turns. -/
theorem rows_last {R : DV → DV → Prop} (hR : ∀ d, R d d) {A : List (List DV)} {x y : List DV} (h : frRow R x y) : (A ++ [y]).length = (A ++ [x]).length ∧ ∀ (i : Nat) row', (A ++ [y])[i]? = some row' → ∃ row, (A ++ [x])[i]? = some row ∧ frRow R row row' := by
  refine ⟨by simp, fun i row' hr => ?_⟩
  rcases Nat.lt_or_ge i A.length with h1 | h1
  · rw [List.getElem?_append_left h1] at hr
    exact ⟨row', by rw [List.getElem?_append_left h1]; exact hr, frRow.refl hR _⟩
  · rw [List.getElem?_append_right h1] at hr
    have hi : i - A.length = 0 := by have := (List.getElem?_eq_some_iff.1 hr).1; simp at this; omega
    rw [hi] at hr
    simp at hr
    subst hr
    exact ⟨x, by rw [List.getElem?_append_right h1, hi]; rfl, h⟩
/-- A loop by an invariant, where at each head own slices may be let go of. -/
theorem LoopWp.invF {E : Prg} {F : FTab} (hF : FOk E F) {n : Nat} {b : RC} {Q : Exit → St → Prop} {st : St} {σ : Type} (S : σ → St) (I : σ → Prop) (μ : σ → Nat) (s0 : σ) (h0 : I s0) (hw : Frzs st (S s0))
    (round : ∀ s, I s → b.wp E F n (fun e st' => match e with
      | .normal => ∃ s', Frzs st' (S s') ∧ I s' ∧ μ s' < μ s
      | e => Q e st') (S s)) : LoopWp E n b Q st := by
  intro c ann hc C a w hn hr
  let J : Act → World → Nat → Prop := fun a w m => ∃ s, I s ∧ RelSt E C (S s) a w ∧ μ s = m
  have hex : ∀ a w, (∃ m, J a w m) → ∃ m, J a w m ∧ ∀ k, J a w k → m ≤ k := fun a w ⟨m, hm⟩ => exists_least _ m hm
  open Classical in
  let f : Act → World → Nat := fun a w => if h : ∃ m, J a w m then Classical.choose (hex a w h) else 0
  have hf : ∀ a w, (∃ m, J a w m) → J a w (f a w) ∧ ∀ k, J a w k → f a w ≤ k := fun a w h => by
    simp only [f, dif_pos h]
    exact Classical.choose_spec (hex a w h)
  refine wp_loop (fun a w => ∃ m, J a w m) f ⟨μ s0, s0, h0, hr.frzs hw, rfl⟩ (fun a w hJ => ?_)
  obtain ⟨⟨s, hI, hrs, hm⟩, hmin⟩ := hf a w hJ
  refine Code.wp_mono ?_ (RC.sound hF c ann b _ (S s) hc (round s hI) C a w hn hrs)
  rintro e a' w' ⟨st', h1, h2⟩
  cases e with
  | normal =>
    obtain ⟨s', hw', hI', hlt⟩ := h1
    have hJ' : J a' w' (μ s') := ⟨s', hI', h2.frzs hw', rfl⟩
    refine ⟨⟨_, hJ'⟩, ?_⟩
    have := (hf a' w' ⟨_, hJ'⟩).2 _ hJ'
    omega
  | _ => exact ⟨st', h1, h2⟩
/-- A function's law of any table, whose result has no objects, as one that is handed nothing. -/
theorem PCalls.of_K {E : Prg} {f : Nat} {args : List DV} {v : DV} (hv : ∀ n T, retH n v T fun d os => d = v ∧ os = []) (h : ∀ T, CallK E f args T fun r T' => r = v) : PCalls E f args fun n r os => r = v ∧ os = [] := by
  intro n
  obtain ⟨T1, Q, h1, h2, h3, h4⟩ := h (List.replicate n none)
  have hT : T1 = List.replicate n none := by
    refine List.ext_getElem (by simpa using h1) fun i a b => ?_
    rw [List.getElem_replicate]
    cases hx : T1[i] with
    | none => rfl
    | some ob => exact (getElem?_rep (h2 i ob (by rw [List.getElem?_eq_getElem a, hx]))).elim
  subst hT
  have g1 : GCalls E f args (List.replicate n none) fun r T' => r = v := by
    intro G w vs g1 g2 g3 g4
    refine (h3 G w vs g1 g2 g3 g4).mono fun e w' ⟨r0, r, T', G', a, b, c, d⟩ => ⟨r0, r, T', G', a, ?_, c, d⟩
    obtain ⟨T2, _, k⟩ := h4 r T' b c
    exact k
  refine (GCalls.canonT (n := n) (R' := fun r T' => r = v ∧ T' = List.replicate n none) (by simp) g1 fun r T' hr => ?_).mono fun r T' hh => ⟨[], by simp [hh.2], hh.1, rfl⟩
  subst hr
  obtain ⟨g, r', os, hc, hk1, hk2⟩ := retH_spec (hv n T')
  exact ⟨g, r', os, hc, hk1, by rw [hk2]; simp⟩
/-- What is to be shown of a function's code, sealed (so that nothing unfolds it). -/
structure FnWp (E : Prg) (F : FTab) (rf : RFn) (args : List DV) (T : Objs) (Post : DV → Objs → Prop) : Prop where
  w : rf.code.wp E F rf.n (finQ rf.res Post) ⟨initEnv 0 args, T⟩
theorem FnWp.k {E : Prg} {F : FTab} (hF : FOk E F) {f : Nat} {ann : List Ann} {rf : RFn} {args : List DV} {T : Objs} {K : DV → Objs → Prop} (hc : compFn E.P ann f = some rf) (hargs : args.length ≤ rf.n)
    (h : FnWp E F rf args T fun d T' => T.length ≤ T'.length ∧ K d T') : CallK E f args T K := CallK.of_fn hF hc hargs h.w
theorem FnWp.kF {E : Prg} {F : FTab} (hF : FOk E F) {f : Nat} {ann : List Ann} {rf : RFn} {args : List DV} {T : Objs} {K : DV → Objs → Prop} (hc : compFn E.P ann f = some rf) (hargs : args.length ≤ rf.n)
    (h : FnWp E F rf args T fun d T' => T.length ≤ T'.length ∧ ∃ d' T'', Frzs ⟨[(0, d)], T'⟩ ⟨[(0, d')], T''⟩ ∧ K d' T'') : CallK E f args T K := CallK.of_fnF hF hc hargs h.w
end Go.Proofs.Ytaopaongpoecoaa
end
