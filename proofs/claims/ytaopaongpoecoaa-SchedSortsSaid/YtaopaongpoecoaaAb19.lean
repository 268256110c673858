/- Results by their own names: what a function made is numbered by its result. -/
import Derived.Test.YtaopaongpoecoaaAb18
set_option linter.unusedVariables false
set_option linter.unusedSimpArgs false
namespace Go.Proofs.Ytaopaongpoecoaa
open Go.RowKit

/-- It names no objects: it stands to a value as long as what is only read stays so. -/
def Cl (d : DV) : Prop := ∀ (G G' : Gh) (v : Value), (∀ a x, G.rd a = some x → G'.rd a = some x) → Rel G d v → Rel G' d v

theorem Cl.int (k : IntKind) (n : Int) : Cl (.int k n) := fun G G' v _ h => by cases h; exact .int k n
theorem Cl.bool (b : Bool) : Cl (.bool b) := fun G G' v _ h => by cases h; exact .bool b
theorem Cl.str (s : List UInt8) : Cl (.str s) := fun G G' v _ h => by cases h; exact .str s
theorem Cl.undef : Cl .undef := fun G G' v _ h => by cases h; exact .undef v
theorem Cl.lit (v : Value) : Cl (.lit v) := fun G G' u _ h => by cases h; exact .lit v
theorem Cl.sl (sz : Nat) (rows : List (List DV)) (k : SK) (h : ∀ row ∈ rows, ∀ c ∈ row, Cl c) : Cl (.sl sz rows k) := fun G G' v hle r => by
  cases r with
  | sl sz rows k p len cap b o vals h1 h2 h3 h4 h5 h6 h7 =>
    exact .sl sz rows k p len cap b o vals h1 h2 h3 h4 h5 (fun i j row c a b => hle _ _ (h6 i j row c a b)) fun i j row c hr hc => h row (List.mem_of_getElem? hr) c (List.mem_of_getElem? hc) G G' _ hle (h7 i j row c hr hc)
theorem Cl.agg (cs : List DV) (h : ∀ c ∈ cs, Cl c) : Cl (.agg cs) := fun G G' v hle r => by
  cases r with
  | agg cs vs h1 h2 => exact .agg cs vs h1 fun i c hc => h c (List.mem_of_getElem? hc) G G' _ hle (h2 i c hc)
theorem Cl.rp (row : List DV) (j : Nat) (h : ∀ c ∈ row, Cl c) : Cl (.rp row j) := fun G G' v hle r => by
  cases r with
  | rp row j b o vals h1 h2 => exact .rp row j b o vals (fun m c hc => hle _ _ (h1 m c hc)) fun m c hc => h c (List.mem_of_getElem? hc) G G' _ hle (h2 m c hc)

/-- The first value with its objects' names turned, the second one: by f. -/
inductive Ren (f : Nat → Option Nat) : DV → DV → Prop where
  | cl (d : DV) : Cl d → Ren f d d
  | own (o o' off n : Nat) : f o = some o' → Ren f (.own o off n) (.own o' off n)
  | ptr (o o' i j : Nat) : f o = some o' → Ren f (.ptr o i j) (.ptr o' i j)
  | agg (cs ds : List DV) : cs.length = ds.length → (∀ (i : Nat) c d, cs[i]? = some c → ds[i]? = some d → Ren f c d) → Ren f (.agg cs) (.agg ds)
  | tup (cs ds : List DV) : cs.length = ds.length → (∀ (i : Nat) c d, cs[i]? = some c → ds[i]? = some d → Ren f c d) → Ren f (.tup cs) (.tup ds)
  | wrap (w : WK) (cs ds : List DV) : cs.length = ds.length → (∀ (i : Nat) c d, cs[i]? = some c → ds[i]? = some d → Ren f c d) → Ren f (.wrap w cs) (.wrap w ds)

theorem Ren.rel {f : Nat → Option Nat} {G G' : Gh} (hle : ∀ a x, G.rd a = some x → G'.rd a = some x) (hpl : ∀ o o' p, f o = some o' → G.pl o = some p → G'.pl o' = some p) {d d' : DV} (h : Ren f d d') : ∀ {v : Value}, Rel G d v → Rel G' d' v := by
  induction h with
  | cl d hc => exact fun r => hc G G' _ hle r
  | own o o' off n hf =>
    intro v r
    cases r with
    | own o off n pl p c h1 h2 h3 h4 => exact .own o' off n pl p c (hpl o o' pl hf h1) h2 h3 h4
  | ptr o o' i j hf =>
    intro v r
    cases r with
    | ptr o i j pl h1 => exact .ptr o' i j pl (hpl o o' pl hf h1)
  | agg cs ds hl _ ih =>
    intro v r
    cases r with
    | agg cs vs h1 h2 =>
      refine .agg ds vs (by rw [h1, hl]) fun i d hd => ?_
      have hi : i < cs.length := by rw [hl]; exact (List.getElem?_eq_some_iff.1 hd).1
      exact ih i cs[i] d (List.getElem?_eq_getElem hi) hd (h2 i cs[i] (List.getElem?_eq_getElem hi))
  | tup cs ds hl _ ih =>
    intro v r
    cases r with
    | tup cs vs h1 h2 =>
      refine .tup ds vs (by rw [h1, hl]) fun i d hd => ?_
      have hi : i < cs.length := by rw [hl]; exact (List.getElem?_eq_some_iff.1 hd).1
      exact ih i cs[i] d (List.getElem?_eq_getElem hi) hd (h2 i cs[i] (List.getElem?_eq_getElem hi))
  | wrap w cs ds hl _ ih =>
    intro v r
    cases r with
    | ifc t d v h1 =>
      match ds, hl with
      | [d2], _ => exact .ifc t d2 v (ih 0 d d2 rfl rfl h1)
    | ifa t cs vs h1 h2 =>
      refine .ifa t ds vs (by rw [h1, hl]) fun i d hd => ?_
      have hi : i < cs.length := by rw [hl]; exact (List.getElem?_eq_some_iff.1 hd).1
      exact ih i cs[i] d (List.getElem?_eq_getElem hi) hd (h2 i cs[i] (List.getElem?_eq_getElem hi))
    | clo g cs vs h1 h2 =>
      refine .clo g ds vs (by rw [h1, hl]) fun i d hd => ?_
      have hi : i < cs.length := by rw [hl]; exact (List.getElem?_eq_some_iff.1 hd).1
      exact ih i cs[i] d (List.getElem?_eq_getElem hi) hd (h2 i cs[i] (List.getElem?_eq_getElem hi))

def RenOb (f : Nat → Option Nat) (a b : Ob) : Prop :=
  a.sz = b.sz ∧ a.rows.length = b.rows.length ∧ ∀ (i : Nat) ra rb, a.rows[i]? = some ra → b.rows[i]? = some rb → ra.length = rb.length ∧ ∀ (j : Nat) c d, ra[j]? = some c → rb[j]? = some d → Ren f c d

/-- What a function comes to, told by other names: f tells the new names of what is new. -/
def Canon (n : Nat) (f : Nat → Option Nat) (d : DV) (T : Objs) (d' : DV) (os : Objs) : Prop :=
  Ren f d d' ∧ (∀ (k : Nat) ob', os[k]? = some (some ob') → ∃ o ob, f o = some (n + k) ∧ T[o]? = some (some ob) ∧ RenOb f ob ob') ∧
    (∀ a b x, f a = some x → f b = some x → a = b) ∧ (∀ a x, f a = some x → n ≤ a ∧ n ≤ x ∧ x < n + os.length)

theorem GCalls.canon {E : Prg} {f : Nat} {args : List DV} {n : Nat} {R R' : DV → Objs → Prop} (h : GCalls E f args (List.replicate n none) R)
    (hR : ∀ r T', R r T' → ∃ g r' os, Canon n g r T' r' os ∧ R' r' (List.replicate n none ++ os)) : GCalls E f args (List.replicate n none) R' := by
  intro G w vs h1 h2 h3 h4
  refine Calls.mono (h G w vs h1 h2 h3 h4) fun e w' ⟨v, r, T', G', a, hr, hl, hrel, hh, hf⟩ => ?_
  obtain ⟨g, r', os, ⟨c1, c2, c3, c4⟩, hR'⟩ := hR r T' hr
  open Classical in
  let G2 : Gh := { rd := G'.rd, pl := fun x => if x < n then G.pl x else if hx : ∃ o, g o = some x then G'.pl (Classical.choose hx) else none }
  have hpl : ∀ o o' p, g o = some o' → G'.pl o = some p → G2.pl o' = some p := fun o o' p ho hp => by
    have h5 := (c4 o o' ho).2.1
    show (if o' < n then G.pl o' else if hx : ∃ o, g o = some o' then G'.pl (Classical.choose hx) else none) = some p
    rw [if_neg (by omega), dif_pos ⟨o, ho⟩]
    have := Classical.choose_spec (⟨o, ho⟩ : ∃ o, g o = some o')
    rw [c3 _ _ _ this ho]; exact hp
  have hpl2 : ∀ x p, G2.pl x = some p → (x < n ∧ G.pl x = some p) ∨ (n ≤ x ∧ x < n + os.length ∧ ∃ o, g o = some x ∧ G'.pl o = some p) := fun x p hx => by
    change (if x < n then G.pl x else if hx : ∃ o, g o = some x then G'.pl (Classical.choose hx) else none) = some p at hx
    by_cases hlt : x < n
    · rw [if_pos hlt] at hx; exact .inl ⟨hlt, hx⟩
    · rw [if_neg hlt] at hx
      by_cases he : ∃ o, g o = some x
      · rw [dif_pos he] at hx
        have hs := Classical.choose_spec he
        exact .inr ⟨by omega, (c4 _ _ hs).2.2, _, hs, hx⟩
      · rw [dif_neg he] at hx; cases hx
  have hT : ∀ (k : Nat) ob, (List.replicate n (none : Option Ob) ++ os)[k]? = some (some ob) → n ≤ k ∧ os[k - n]? = some (some ob) := fun k ob hk => by
    by_cases hlt : k < n
    · rw [List.getElem?_append_left (by simpa using hlt)] at hk; exact (getElem?_rep hk).elim
    · rw [List.getElem?_append_right (by simpa using hlt)] at hk
      exact ⟨by omega, by simpa using hk⟩
  have hob : ∀ (k : Nat) ob', (List.replicate n (none : Option Ob) ++ os)[k]? = some (some ob') → ∃ o ob, g o = some k ∧ T'[o]? = some (some ob) ∧ RenOb g ob ob' := fun k ob' hk => by
    obtain ⟨h5, h6⟩ := hT k ob' hk
    obtain ⟨o, ob, h7, h8, h9⟩ := c2 _ _ h6
    rw [show n + (k - n) = k by omega] at h7
    exact ⟨o, ob, h7, h8, h9⟩
  have hlive : ∀ (k : Nat) ob' p, (List.replicate n (none : Option Ob) ++ os)[k]? = some (some ob') → G2.pl k = some p → ∃ o ob, g o = some k ∧ T'[o]? = some (some ob) ∧ RenOb g ob ob' ∧ G'.pl o = some p := fun k ob' p hk hp => by
    obtain ⟨o, ob, h5, h6, h7⟩ := hob k ob' hk
    obtain ⟨q, hq, _⟩ := hh.live o ob h6
    rw [hpl o k q h5 hq] at hp
    obtain rfl := Option.some.inj hp
    exact ⟨o, ob, h5, h6, h7, hq⟩
  refine ⟨v, r', _, G2, a, hR', by simp, c1.rel (G := G') (G' := G2) (fun _ _ h => h) hpl hrel, ⟨?_, ?_, ?_, hh.rdv, ?_⟩, ⟨hf.os, hf.tape, hf.output, hf.size, hf.blk, hf.cell, hf.frz, ?_, hf.rdn, ⟨hf.le.rd, ?_⟩, hf.mko⟩⟩
  · intro k p hp
    rcases hpl2 k p hp with ⟨h5, _⟩ | ⟨_, h5, _⟩ <;> simp <;> omega
  · intro k ob' hk
    obtain ⟨o, ob, h5, h6, h7⟩ := hob k ob' hk
    obtain ⟨q, hq, hl⟩ := hh.live o ob h6
    refine ⟨q, hpl o k q h5 hq, ⟨hl.psz.trans h7.1, h7.2.1 ▸ hl.fits, fun row hrow => ?_, hl.there, fun i j row c v hi hj hv => ?_, hl.mko⟩⟩
    · obtain ⟨i, hi, he⟩ := List.getElem_of_mem hrow
      have hi2 : i < ob.rows.length := by rw [h7.2.1]; exact hi
      rw [← (h7.2.2 i ob.rows[i] row (List.getElem?_eq_getElem hi2) (by rw [List.getElem?_eq_getElem hi, he])).1]
      exact hl.size _ (List.getElem_mem hi2)
    · have hi2 : i < ob.rows.length := by rw [h7.2.1]; exact (List.getElem?_eq_some_iff.1 hi).1
      obtain ⟨h8, h9⟩ := h7.2.2 i ob.rows[i] row (List.getElem?_eq_getElem hi2) hi
      have hj2 : j < ob.rows[i].length := by rw [h8]; exact (List.getElem?_eq_some_iff.1 hj).1
      exact (h9 j _ c (List.getElem?_eq_getElem hj2) hj).rel (G := G') (G' := G2) (fun _ _ h => h) hpl (hl.holds i j ob.rows[i] ob.rows[i][j] v (List.getElem?_eq_getElem hi2) (List.getElem?_eq_getElem hj2) hv)
  · intro k k' x x' p p' m m' hk hk' hne hp hp' hm hm' e
    obtain ⟨o, ob, h5, h6, h7, h8⟩ := hlive k x p hk hp
    obtain ⟨o', ob', h5', h6', h7', h8'⟩ := hlive k' x' p' hk' hp'
    refine hh.sep o o' ob ob' p p' m m' h6 h6' (fun e2 => ?_) h8 h8' hm hm' e
    subst e2
    exact hne (Option.some.inj (h5.symm.trans h5'))
  · intro k x p m hk hp hm
    obtain ⟨o, ob, h5, h6, h7, h8⟩ := hlive k x p hk hp
    exact hh.rds o ob p m h6 h8 hm
  · intro k x p m hk hp hm
    obtain ⟨o, ob, h5, h6, h7, h8⟩ := hlive k x p hk hp
    exact hf.mine o ob p m h6 h8 hm
  · intro k p hp
    have hk := h2.pls k p hp
    simp at hk
    show (if k < n then G.pl k else _) = some p
    rw [if_pos hk]; exact hp

end Go.Proofs.Ytaopaongpoecoaa
