/- Texts Ab19, Ab20, Ab21, Ab22, Ab23, Ab24, Ab25, Ab26, Ab27, Ab28, Ab29, Ab30, Ab31, Ab32, Ab33, Ab34, Ab35, Ab36, Ab38 in one. -/
import Derived.Test.YtdimdjcnkmkbjaaDoorM2
import Derived.IntWalk
import Derived.ChangeSlices
import Derived.OpenShut
import Derived.Deep.DeepHandedRow
import Derived.Lib.LaidTab
set_option linter.unusedVariables false
set_option linter.unusedSimpArgs false
set_option maxRecDepth 10000
namespace Go.Proofs.YtdimdjcnkmkbjaaDoor
open Go.RowKit
def Cl (d : DV) : Prop := ∀ (G G' : Gh) (v : Value), (∀ a x, G.rd a = some x → G'.rd a = some x) → Rel G d v → Rel G' d v
theorem Cl.int (k : IntKind) (n : Int) : Cl (.int k n) := fun G G' v _ h => by cases h; exact .int k n
theorem Cl.bool (b : Bool) : Cl (.bool b) := fun G G' v _ h => by cases h; exact .bool b
theorem Cl.str (s : List UInt8) : Cl (.str s) := fun G G' v _ h => by cases h; exact .str s
theorem Cl.undef : Cl .undef := fun G G' v _ h => by cases h; exact .undef v
theorem Cl.lit (v : Value) : Cl (.lit v) := fun G G' u _ h => by cases h; exact .lit v
theorem Cl.sl (sz : Nat) (rows : List (List DV)) (k : SK) (h : ∀ row ∈ rows, ∀ c ∈ row, Cl c) : Cl (.sl sz rows k) := fun G G' v hle r => by
  cases r with
  | sl sz rows k p len cap b o vals h1 h2 h3 h4 h5 h6 h7 =>
    exact .sl sz rows k p len cap b o vals h1 h2 h3 h4 h5 (fun i j row c a b => hle _ _ (h6 i j row c a b)) fun i j row c hr hc => h row (List.mem_of_getElem? hr) c (List.mem_of_getElem? hc) G G' _ hle (h7 i j row c hr hc)
theorem Cl.agg (cs : List DV) (h : ∀ c ∈ cs, Cl c) : Cl (.agg cs) := fun G G' v hle r => by
  cases r with
  | agg cs vs h1 h2 => exact .agg cs vs h1 fun i c hc => h c (List.mem_of_getElem? hc) G G' _ hle (h2 i c hc)
theorem Cl.rp (row : List DV) (j : Nat) (h : ∀ c ∈ row, Cl c) : Cl (.rp row j) := fun G G' v hle r => by
  cases r with
  | rp row j b o vals h1 h2 => exact .rp row j b o vals (fun m c hc => hle _ _ (h1 m c hc)) fun m c hc => h c (List.mem_of_getElem? hc) G G' _ hle (h2 m c hc)
inductive Ren (f : Nat → Option Nat) : DV → DV → Prop where
  | cl (d : DV) : Cl d → Ren f d d
  | own (o o' off n : Nat) : f o = some o' → Ren f (.own o off n) (.own o' off n)
  | ptr (o o' i j : Nat) : f o = some o' → Ren f (.ptr o i j) (.ptr o' i j)
  | agg (cs ds : List DV) : cs.length = ds.length → (∀ (i : Nat) c d, cs[i]? = some c → ds[i]? = some d → Ren f c d) → Ren f (.agg cs) (.agg ds)
  | tup (cs ds : List DV) : cs.length = ds.length → (∀ (i : Nat) c d, cs[i]? = some c → ds[i]? = some d → Ren f c d) → Ren f (.tup cs) (.tup ds)
  | wrap (w : WK) (cs ds : List DV) : cs.length = ds.length → (∀ (i : Nat) c d, cs[i]? = some c → ds[i]? = some d → Ren f c d) → Ren f (.wrap w cs) (.wrap w ds)
theorem Ren.rel {f : Nat → Option Nat} {G G' : Gh} (hle : ∀ a x, G.rd a = some x → G'.rd a = some x) (hpl : ∀ o o' p, f o = some o' → G.pl o = some p → G'.pl o' = some p) {d d' : DV} (h : Ren f d d') : ∀ {v : Value}, Rel G d v → Rel G' d' v := by
  induction h with
  | cl d hc => exact fun r => hc G G' _ hle r
  | own o o' off n hf =>
    intro v r
    cases r with
    | own o off n pl p c h1 h2 h3 h4 => exact .own o' off n pl p c (hpl o o' pl hf h1) h2 h3 h4
  | ptr o o' i j hf =>
    intro v r
    cases r with
    | ptr o i j pl h1 => exact .ptr o' i j pl (hpl o o' pl hf h1)
  | agg cs ds hl _ ih =>
    intro v r
    cases r with
    | agg cs vs h1 h2 =>
      refine .agg ds vs (by rw [h1, hl]) fun i d hd => ?_
      have hi : i < cs.length := by rw [hl]; exact (List.getElem?_eq_some_iff.1 hd).1
      exact ih i cs[i] d (List.getElem?_eq_getElem hi) hd (h2 i cs[i] (List.getElem?_eq_getElem hi))
  | tup cs ds hl _ ih =>
    intro v r
    cases r with
    | tup cs vs h1 h2 =>
      refine .tup ds vs (by rw [h1, hl]) fun i d hd => ?_
      have hi : i < cs.length := by rw [hl]; exact (List.getElem?_eq_some_iff.1 hd).1
      exact ih i cs[i] d (List.getElem?_eq_getElem hi) hd (h2 i cs[i] (List.getElem?_eq_getElem hi))
  | wrap w cs ds hl _ ih =>
    intro v r
    cases r with
    | ifc t d v h1 =>
      match ds, hl with
      | [d2], _ => exact .ifc t d2 v (ih 0 d d2 rfl rfl h1)
    | ifa t cs vs h1 h2 =>
      refine .ifa t ds vs (by rw [h1, hl]) fun i d hd => ?_
      have hi : i < cs.length := by rw [hl]; exact (List.getElem?_eq_some_iff.1 hd).1
      exact ih i cs[i] d (List.getElem?_eq_getElem hi) hd (h2 i cs[i] (List.getElem?_eq_getElem hi))
    | clo g cs vs h1 h2 =>
      refine .clo g ds vs (by rw [h1, hl]) fun i d hd => ?_
      have hi : i < cs.length := by rw [hl]; exact (List.getElem?_eq_some_iff.1 hd).1
      exact ih i cs[i] d (List.getElem?_eq_getElem hi) hd (h2 i cs[i] (List.getElem?_eq_getElem hi))
def RenOb (f : Nat → Option Nat) (a b : Ob) : Prop :=
  (a.cel ∧ b.cel) ∧ a.sz = b.sz ∧ a.rows.length = b.rows.length ∧ ∀ (i : Nat) ra rb, a.rows[i]? = some ra → b.rows[i]? = some rb → ra.length = rb.length ∧ ∀ (j : Nat) c d, ra[j]? = some c → rb[j]? = some d → Ren f c d
def Canon (n : Nat) (f : Nat → Option Nat) (d : DV) (T : Objs) (d' : DV) (os : Objs) : Prop :=
  Ren f d d' ∧ (∀ (k : Nat) ob', os[k]? = some (some ob') → ∃ o ob, f o = some (n + k) ∧ T[o]? = some (some ob) ∧ RenOb f ob ob') ∧
    (∀ a b x, f a = some x → f b = some x → a = b) ∧ (∀ a x, f a = some x → n ≤ a ∧ n ≤ x ∧ x < n + os.length)
theorem GCalls.canon {E : Prg} {f : Nat} {args : List DV} {n : Nat} {R R' : DV → Objs → Prop} (h : GCalls E f args (List.replicate n none) R)
    (hR : ∀ r T', R r T' → ∃ g r' os, Canon n g r T' r' os ∧ R' r' (List.replicate n none ++ os)) : GCalls E f args (List.replicate n none) R' := by
  intro G w vs h1 h2 h3 h4
  refine Calls.mono (h G w vs h1 h2 h3 h4) fun e w' ⟨v, r, T', G', a, hr, hl, hrel, hh, hf⟩ => ?_
  obtain ⟨g, r', os, ⟨c1, c2, c3, c4⟩, hR'⟩ := hR r T' hr
  open Classical in
  let G2 : Gh := { rd := G'.rd, pl := fun x => if x < n then G.pl x else if hx : ∃ o, g o = some x then G'.pl (Classical.choose hx) else none }
  have hpl : ∀ o o' p, g o = some o' → G'.pl o = some p → G2.pl o' = some p := fun o o' p ho hp => by
    have h5 := (c4 o o' ho).2.1
    show (if o' < n then G.pl o' else if hx : ∃ o, g o = some o' then G'.pl (Classical.choose hx) else none) = some p
    rw [if_neg (by omega), dif_pos ⟨o, ho⟩]
    have := Classical.choose_spec (⟨o, ho⟩ : ∃ o, g o = some o')
    rw [c3 _ _ _ this ho]; exact hp
  have hpl2 : ∀ x p, G2.pl x = some p → (x < n ∧ G.pl x = some p) ∨ (n ≤ x ∧ x < n + os.length ∧ ∃ o, g o = some x ∧ G'.pl o = some p) := fun x p hx => by
    change (if x < n then G.pl x else if hx : ∃ o, g o = some x then G'.pl (Classical.choose hx) else none) = some p at hx
    by_cases hlt : x < n
    · rw [if_pos hlt] at hx; exact .inl ⟨hlt, hx⟩
    · rw [if_neg hlt] at hx
      by_cases he : ∃ o, g o = some x
      · rw [dif_pos he] at hx
        have hs := Classical.choose_spec he
        exact .inr ⟨by omega, (c4 _ _ hs).2.2, _, hs, hx⟩
      · rw [dif_neg he] at hx; cases hx
  have hT : ∀ (k : Nat) ob, (List.replicate n (none : Option Ob) ++ os)[k]? = some (some ob) → n ≤ k ∧ os[k - n]? = some (some ob) := fun k ob hk => by
    by_cases hlt : k < n
    · rw [List.getElem?_append_left (by simpa using hlt)] at hk; exact (getElem?_rep hk).elim
    · rw [List.getElem?_append_right (by simpa using hlt)] at hk
      exact ⟨by omega, by simpa using hk⟩
  have hob : ∀ (k : Nat) ob', (List.replicate n (none : Option Ob) ++ os)[k]? = some (some ob') → ∃ o ob, g o = some k ∧ T'[o]? = some (some ob) ∧ RenOb g ob ob' := fun k ob' hk => by
    obtain ⟨h5, h6⟩ := hT k ob' hk
    obtain ⟨o, ob, h7, h8, h9⟩ := c2 _ _ h6
    rw [show n + (k - n) = k by omega] at h7
    exact ⟨o, ob, h7, h8, h9⟩
  have hlive : ∀ (k : Nat) ob' p, (List.replicate n (none : Option Ob) ++ os)[k]? = some (some ob') → G2.pl k = some p → ∃ o ob, g o = some k ∧ T'[o]? = some (some ob) ∧ RenOb g ob ob' ∧ G'.pl o = some p := fun k ob' p hk hp => by
    obtain ⟨o, ob, h5, h6, h7⟩ := hob k ob' hk
    obtain ⟨q, hq, _⟩ := hh.live o ob h6
    rw [hpl o k q h5 hq] at hp
    obtain rfl := sj hp
    exact ⟨o, ob, h5, h6, h7, hq⟩
  refine ⟨v, r', _, G2, a, hR', by simp, c1.rel (G := G') (G' := G2) (fun _ _ h => h) hpl hrel, ⟨?_, ?_, ?_, hh.rdv, ?_⟩, ⟨hf.os, hf.tape, hf.output, hf.size, hf.blk, hf.cell, hf.frz, ?_, hf.rdn, ⟨hf.le.rd, ?_⟩, hf.mko⟩⟩
  · intro k p hp
    rcases hpl2 k p hp with ⟨h5, _⟩ | ⟨_, h5, _⟩ <;> simp <;> omega
  · intro k ob' hk
    obtain ⟨o, ob, h5, h6, h7⟩ := hob k ob' hk
    obtain ⟨q, hq, hl⟩ := hh.live o ob h6
    refine ⟨q, hpl o k q h5 hq, ⟨hl.psz.trans h7.2.1, h7.2.2.1 ▸ hl.fits, fun row hrow => ?_, fun _ => hl.there h7.1.1, fun i j row c v hi hj hv => ?_, hl.mko, fun es he => absurd h7.1.2 (by rw [he]; exact id)⟩⟩
    · obtain ⟨i, hi, he⟩ := List.getElem_of_mem hrow
      have hi2 : i < ob.rows.length := by rw [h7.2.2.1]; exact hi
      rw [← (h7.2.2.2 i ob.rows[i] row (List.getElem?_eq_getElem hi2) (by rw [List.getElem?_eq_getElem hi, he])).1]
      exact hl.size _ (List.getElem_mem hi2)
    · have hi2 : i < ob.rows.length := by rw [h7.2.2.1]; exact (List.getElem?_eq_some_iff.1 hi).1
      obtain ⟨h8, h9⟩ := h7.2.2.2 i ob.rows[i] row (List.getElem?_eq_getElem hi2) hi
      have hj2 : j < ob.rows[i].length := by rw [h8]; exact (List.getElem?_eq_some_iff.1 hj).1
      exact (h9 j _ c (List.getElem?_eq_getElem hj2) hj).rel (G := G') (G' := G2) (fun _ _ h => h) hpl (hl.holds i j ob.rows[i] ob.rows[i][j] v (List.getElem?_eq_getElem hi2) (List.getElem?_eq_getElem hj2) hv)
  · intro k k' x x' p p' m m' hk hk' hne hp hp' hm hm' e
    obtain ⟨o, ob, h5, h6, h7, h8⟩ := hlive k x p hk hp
    obtain ⟨o', ob', h5', h6', h7', h8'⟩ := hlive k' x' p' hk' hp'
    refine hh.sep o o' ob ob' p p' m m' h6 h6' (fun e2 => ?_) h8 h8' hm hm' e
    subst e2
    exact hne (sj (h5.symm.trans h5'))
  · intro k x p m hk hp hm
    obtain ⟨o, ob, h5, h6, h7, h8⟩ := hlive k x p hk hp
    exact hh.rds o ob p m h6 h8 hm
  · intro k x p m hk hp hm
    obtain ⟨o, ob, h5, h6, h7, h8⟩ := hlive k x p hk hp
    exact hf.mine o ob p m h6 h8 hm
  · intro k p hp
    have hk := h2.pls k p hp
    simp at hk
    show (if k < n then G.pl k else _) = some p
    rw [if_pos hk]; exact hp
def ClRows (rows : List (List DV)) : Prop := ∀ row ∈ rows, ∀ c ∈ row, Cl c
def ids0 : DV → List Nat
  | .own o _ _ => [o]
  | .ptr o _ _ => [o]
  | _ => []
def idsA : DV → List Nat
  | .agg cs => cs.flatMap ids0
  | .wrap _ cs => cs.flatMap ids0
  | d => ids0 d
def idsT : DV → List Nat
  | .tup cs => cs.flatMap idsA
  | d => idsA d
def pos (o : Nat) : List Nat → Nat
  | [] => 0
  | a :: l => if a = o then 0 else pos o l + 1
def can0 (n : Nat) (ids : List Nat) : DV → DV
  | .own o off m => .own (n + pos o ids) off m
  | .ptr o i j => .ptr (n + pos o ids) i j
  | d => d
def canA (n : Nat) (ids : List Nat) : DV → DV
  | .agg cs => .agg (cs.map (can0 n ids))
  | .wrap w cs => .wrap w (cs.map (can0 n ids))
  | d => can0 n ids d
def canT (n : Nat) (ids : List Nat) : DV → DV
  | .tup cs => .tup (cs.map (canA n ids))
  | d => canA n ids d
def cl0 : DV → Prop
  | .int .. | .bool .. | .str .. | .own .. | .ptr .. | .undef | .lit _ => True
  | .sl _ rows _ => ClRows rows
  | d => Cl d
def clA : DV → Prop
  | .agg cs => ∀ c ∈ cs, cl0 c
  | .wrap _ cs => ∀ c ∈ cs, cl0 c
  | d => cl0 d
def clT : DV → Prop
  | .tup cs => ∀ c ∈ cs, clA c
  | d => clA d
def clOb : Ob → Prop
  | .box cs => ∀ c ∈ cs, Cl c
  | .arr _ rows => ClRows rows
  | .map _ => False
def goIds (n : Nat) (T : Objs) : List Nat → (Objs → Prop) → Prop
  | [], k => k []
  | i :: l, k => n ≤ i ∧ bindO T[i]? fun x => bindO x fun ob => clOb ob ∧ goIds n T l fun os => k (some ob :: os)
def retV (n : Nat) (d : DV) (T : Objs) (K : DV → Objs → Prop) : Prop := (idsT d).Nodup ∧ clT d ∧ goIds n T (idsT d) fun os => K (canT n (idsT d) d) os
def pick1 (n : Nat) (ids : List Nat) (x : Nat) : Option Nat := if x ∈ ids then some (n + pos x ids) else none
theorem pos_lt {o : Nat} : ∀ {l : List Nat}, o ∈ l → pos o l < l.length
  | a :: l, h => by
    simp only [pos]
    by_cases e : a = o
    · simp [e]
    · rw [if_neg e]
      have : o ∈ l := by simpa [Ne.symm (show a ≠ o from e), fun h : o = a => e h.symm] using h
      have := pos_lt this
      simp; omega
theorem pos_get {o : Nat} : ∀ {l : List Nat}, o ∈ l → l[pos o l]? = some o
  | a :: l, h => by
    simp only [pos]
    by_cases e : a = o
    · simp [e]
    · rw [if_neg e]
      have : o ∈ l := by
        rcases List.mem_cons.1 h with h | h
        · exact absurd h.symm e
        · exact h
      simpa using pos_get this
theorem ren0 {n : Nat} {ids : List Nat} {d : DV} (h : ∀ o ∈ ids0 d, o ∈ ids) (hc : cl0 d) : Ren (pick1 n ids) d (can0 n ids d) := by
  cases d with
  | own o off m => exact .own _ _ _ _ (if_pos (h o (by simp [ids0])))
  | ptr o i j => exact .ptr _ _ _ _ (if_pos (h o (by simp [ids0])))
  | mp o => exact .cl _ hc
  | int k n => exact .cl _ (Cl.int k n)
  | bool b => exact .cl _ (Cl.bool b)
  | str s => exact .cl _ (Cl.str s)
  | undef => exact .cl _ Cl.undef
  | lit v => exact .cl _ (Cl.lit v)
  | sl sz rows k => exact .cl _ (Cl.sl sz rows k hc)
  | agg cs => exact .cl _ hc
  | tup cs => exact .cl _ hc
  | rp row j => exact .cl _ hc
  | wrap w cs => exact .cl _ hc
theorem renA {n : Nat} {ids : List Nat} {d : DV} (h : ∀ o ∈ idsA d, o ∈ ids) (hc : clA d) : Ren (pick1 n ids) d (canA n ids d) := by
  cases d with
  | agg cs =>
    refine .agg _ _ (by simp) fun i c d hc' hd => ?_
    rw [List.getElem?_map, hc'] at hd
    obtain rfl := sj hd
    have hm := List.mem_of_getElem? hc'
    exact ren0 (fun o ho => h o (List.mem_flatMap.2 ⟨c, hm, ho⟩)) (hc c hm)
  | wrap w cs =>
    refine .wrap _ _ _ (by simp) fun i c d hc' hd => ?_
    rw [List.getElem?_map, hc'] at hd
    obtain rfl := sj hd
    have hm := List.mem_of_getElem? hc'
    exact ren0 (fun o ho => h o (List.mem_flatMap.2 ⟨c, hm, ho⟩)) (hc c hm)
  | _ => exact ren0 h hc
theorem renT {n : Nat} {ids : List Nat} {d : DV} (h : ∀ o ∈ idsT d, o ∈ ids) (hc : clT d) : Ren (pick1 n ids) d (canT n ids d) := by
  cases d with
  | tup cs =>
    refine .tup _ _ (by simp) fun i c d hc' hd => ?_
    rw [List.getElem?_map, hc'] at hd
    obtain rfl := sj hd
    have hm := List.mem_of_getElem? hc'
    exact renA (fun o ho => h o (List.mem_flatMap.2 ⟨c, hm, ho⟩)) (hc c hm)
  | _ => exact renA h hc
theorem renOb {f : Nat → Option Nat} {ob : Ob} (h : clOb ob) : RenOb f ob ob := by
  have hx : ob.cel := by
    cases ob with
    | map => exact h
    | box => trivial
    | arr => trivial
  refine ⟨⟨hx, hx⟩, rfl, rfl, fun i ra rb ha hb => ?_⟩
  rw [ha] at hb
  obtain rfl := sj hb
  refine ⟨rfl, fun j c d hc hd => ?_⟩
  rw [hc] at hd
  obtain rfl := sj hd
  have h1 := List.mem_of_getElem? ha
  have h2 := List.mem_of_getElem? hc
  cases ob with
  | box cs =>
    simp only [Ob.rows, List.mem_singleton] at h1
    subst h1
    exact .cl _ (h c h2)
  | arr sz rows => exact .cl _ (h ra h1 c h2)
  | map => exact h.elim
theorem goIds_spec {n : Nat} {T : Objs} : ∀ {ids : List Nat} {K : Objs → Prop}, goIds n T ids K → ∃ os, K os ∧ os.length = ids.length ∧ (∀ o ∈ ids, n ≤ o) ∧ ∀ (k : Nat) (ob' : Ob), os[k]? = some (some ob') → ∃ o, ids[k]? = some o ∧ T[o]? = some (some ob') ∧ clOb ob'
  | [], K, h => ⟨[], h, rfl, by simp, by simp⟩
  | i :: l, K, h => by
    obtain ⟨h1, h2⟩ := h
    cases hT : T[i]? with
    | none => rw [hT] at h2; exact h2.elim
    | some x => cases x with
      | none => rw [hT] at h2; exact h2.elim
      | some ob =>
        rw [hT] at h2
        obtain ⟨h3, h4⟩ := h2
        obtain ⟨os, h5, h6, h7, h8⟩ := goIds_spec h4
        refine ⟨some ob :: os, h5, by simp [h6], by simpa using ⟨h1, h7⟩, fun k ob' hk => ?_⟩
        rcases k with _ | k
        · simp at hk; subst hk; exact ⟨i, rfl, hT, h3⟩
        · simpa using h8 k ob' (by simpa using hk)
theorem retV_spec {n : Nat} {d : DV} {T : Objs} {K : DV → Objs → Prop} (h : retV n d T K) : ∃ g r' os, Canon n g d T r' os ∧ K r' os := by
  obtain ⟨hn, hc, hg⟩ := h
  obtain ⟨os, h1, h2, h3, h4⟩ := goIds_spec hg
  refine ⟨pick1 n (idsT d), _, os, ⟨renT (fun _ h => h) hc, fun k ob' hk => ?_, fun a b x ha hb => ?_, fun a x ha => ?_⟩, h1⟩
  · obtain ⟨o, h5, h6, h7⟩ := h4 k ob' hk
    have hm := List.mem_of_getElem? h5
    refine ⟨o, ob', ?_, h6, renOb h7⟩
    show (if o ∈ idsT d then some (n + pos o (idsT d)) else none) = some (n + k)
    rw [if_pos hm]
    have h8 := pos_get hm
    have : pos o (idsT d) = k := (List.getElem?_inj (pos_lt hm) hn).1 (h8.trans h5.symm)
    rw [this]
  · unfold pick1 at ha hb
    by_cases hma : a ∈ idsT d
    case neg => rw [if_neg hma] at ha; cases ha
    by_cases hmb : b ∈ idsT d
    case neg => rw [if_neg hmb] at hb; cases hb
    rw [if_pos hma] at ha
    rw [if_pos hmb] at hb
    have e : n + pos a (idsT d) = n + pos b (idsT d) := (sj ha).trans (sj hb).symm
    have h8 := pos_get hma
    have h9 := pos_get hmb
    rw [show pos a (idsT d) = pos b (idsT d) by omega, h9] at h8
    exact (sj h8).symm
  · unfold pick1 at ha
    split at ha
    · rename_i hm
      have := pos_lt hm
      obtain rfl := sj ha
      exact ⟨h3 a hm, by omega, by omega⟩
    · cases ha
theorem FSpec.by_fn {E : Prg} {F : FTab} (hF : FOk E F) {f : Nat} {ann : List Ann} {rf : RFn} {args : List DV} {s : FSpec} (hc : compFn E.P ann f = some rf) (hargs : args.length ≤ rf.n)
    (h : ∀ n, rf.code.wp E F rf.n (finQ rf.res fun d T' => n ≤ T'.length ∧ retV n d T' fun d' os => d' = (s.res n).1 ∧ os = (s.res n).2) ⟨initEnv 0 args, List.replicate n none⟩) : PCalls E f args fun n r os => r = (s.res n).1 ∧ os = (s.res n).2 := by
  intro n
  have h1 : GCalls E f args (List.replicate n none) fun r T' => retV n r T' fun d' os => d' = (s.res n).1 ∧ os = (s.res n).2 := by
    refine GCalls.of_fn hF hc hargs (RC.wp_mono _ (h n) fun e st hh => ?_)
    have key : ∀ st : St, (match resOf st rf.res with
        | some d => n ≤ st.objs.length ∧ retV n d st.objs fun d' os => d' = (s.res n).1 ∧ os = (s.res n).2
        | none => False) → (match resOf st rf.res with
        | some d => (List.replicate n (none : Option Ob)).length ≤ st.objs.length ∧ retV n d st.objs fun d' os => d' = (s.res n).1 ∧ os = (s.res n).2
        | none => False) := fun st hh => by
      cases hres : resOf st rf.res with
      | none => rw [hres] at hh; exact hh
      | some d => rw [hres] at hh; exact ⟨by simpa using hh.1, hh.2⟩
    cases e with
    | normal => exact key st hh
    | ret => exact key st hh
    | _ => exact hh
  exact (h1.canon fun r T' hr => by
    obtain ⟨g, r', os, hg, hK⟩ := retV_spec hr
    exact ⟨g, r', os, hg, os, rfl, hK⟩)
theorem RO_len (n : Nat) (l : Objs) : (List.replicate n none ++ l).length = n + l.length := by simp
theorem RO_get (n k : Nat) (l : Objs) : (List.replicate n none ++ l)[n + k]? = l[k]? := by
  rw [List.getElem?_append_right (by simp)]
  simp
theorem RO_get0 (n : Nat) (l : Objs) : (List.replicate n none ++ l)[n]? = l[0]? := RO_get n 0 l
theorem RO_set (n k : Nat) (l : Objs) (x : Option Ob) : (List.replicate n none ++ l).set (n + k) x = List.replicate n none ++ l.set k x := by
  rw [List.set_append_right _ _ (by simp)]
  simp
theorem RO_set0 (n : Nat) (l : Objs) (x : Option Ob) : (List.replicate n none ++ l).set n x = List.replicate n none ++ l.set 0 x := RO_set n 0 l x
def intRows (k : IntKind) (l : List Int) : List (List DV) := l.map fun n => [.int k n]
theorem intRows_length (k : IntKind) (l : List Int) : (intRows k l).length = l.length := by simp [intRows]
theorem intRows_get (k : IntKind) (l : List Int) (i : Nat) : (intRows k l)[i]? = (l[i]?).map fun n => [.int k n] := by simp [intRows]
theorem intRows_append (k : IntKind) (a b : List Int) : intRows k a ++ intRows k b = intRows k (a ++ b) := by simp [intRows]
theorem intRows_nil (k : IntKind) : intRows k [] = [] := rfl
theorem intRows_take (k : IntKind) (l : List Int) (n : Nat) : (intRows k l).take n = intRows k (l.take n) := by simp [intRows]
theorem intRows_drop (k : IntKind) (l : List Int) (n : Nat) : (intRows k l).drop n = intRows k (l.drop n) := by simp [intRows]
theorem intRows_set (k : IntKind) (l : List Int) (i : Nat) (n : Int) : (intRows k l).set i [.int k n] = intRows k (l.set i n) := by simp [intRows, List.map_set]
theorem intRows_eq_nil (k : IntKind) (l : List Int) : (intRows k l = []) = (l = []) := by simp [intRows]
theorem ClRows_int (k : IntKind) (l : List Int) : ClRows (intRows k l) := fun row hr c hc => by
  simp only [intRows, List.mem_map] at hr
  obtain ⟨n, _, rfl⟩ := hr
  simp only [List.mem_singleton] at hc
  subst hc
  exact Cl.int k n
theorem ClRows_nil : ClRows [] := fun row h => by cases h
theorem rowsBytes_int (l : List Int) : rowsBytes (intRows .u8 l) = some (l.map fun n => UInt8.ofNat n.toNat) := by
  induction l with
  | nil => rfl
  | cons a l ih =>
    show rowsBytes ([.int .u8 a] :: intRows .u8 l) = _
    simp only [rowsBytes, ih, Option.map, List.map_cons]
def ints (rows : List (List DV)) : List Int := rows.map fun
  | [.int _ n] => n
  | _ => 0
theorem ints_intRows (k : IntKind) (l : List Int) : ints (intRows k l) = l := by
  simp only [ints, intRows, List.map_map]
  exact List.map_id'' (fun _ => rfl) l
def inK (k : IntKind) (l : List Int) : Prop := l.length ≤ 4611686018427387904 ∧ ∀ n ∈ l, k.min ≤ n ∧ n ≤ k.max
theorem inK_nil (k : IntKind) : inK k [] := ⟨by simp, by simp⟩
theorem inK.u8 {l : List Int} (h : inK .u8 l) {n : Int} (hn : n ∈ l) : 0 ≤ n ∧ n ≤ 255 := by
  have := h.2 n hn
  simpa [IntKind.min, IntKind.max, IntKind.signed, IntKind.bits] using this
theorem inK.i32 {l : List Int} (h : inK .i32 l) {n : Int} (hn : n ∈ l) : -2147483648 ≤ n ∧ n ≤ 2147483647 := by
  have := h.2 n hn
  simpa [IntKind.min, IntKind.max, IntKind.signed, IntKind.bits] using this
theorem inK.i64 {l : List Int} (h : inK .i64 l) {n : Int} (hn : n ∈ l) : -9223372036854775808 ≤ n ∧ n ≤ 9223372036854775807 := by
  have := h.2 n hn
  simpa [IntKind.min, IntKind.max, IntKind.signed, IntKind.bits] using this
theorem inK_u8 {l : List Int} (h : l.length ≤ 4611686018427387904) (hn : ∀ n ∈ l, 0 ≤ n ∧ n ≤ 255) : inK .u8 l := ⟨h, by simpa [IntKind.min, IntKind.max, IntKind.signed, IntKind.bits] using hn⟩
theorem inK.take {k : IntKind} {l : List Int} (h : inK k l) (n : Nat) : inK k (l.take n) := ⟨Nat.le_trans (by simp; omega) h.1, fun x hx => h.2 x (List.mem_of_mem_take hx)⟩
theorem inK.drop {k : IntKind} {l : List Int} (h : inK k l) (n : Nat) : inK k (l.drop n) := ⟨Nat.le_trans (by simp) h.1, fun x hx => h.2 x (List.mem_of_mem_drop hx)⟩
theorem inK.append {k : IntKind} {a b : List Int} (ha : inK k a) (hb : inK k b) (h : a.length + b.length ≤ 4611686018427387904) : inK k (a ++ b) := ⟨by simpa using h, fun x hx => (List.mem_append.1 hx).elim (ha.2 x) (hb.2 x)⟩
def isInts (k : IntKind) : DV → Prop
  | .sl sz rows _ => rows = intRows k (ints rows) ∧ (sz = 1 ∨ rows = []) ∧ inK k (ints rows)
  | _ => False
def intsD : DV → List Int
  | .sl _ rows _ => ints rows
  | _ => []
theorem isInts_sl (k : IntKind) (l : List Int) (s : SK) : isInts k (.sl 1 (intRows k l) s) = inK k l := by simp [isInts, ints_intRows]
theorem isInts_nil (k : IntKind) (sz : Nat) (s : SK) : isInts k (.sl sz [] s) = True := by simp [isInts, ints, intRows, inK]
theorem intsD_sl (k : IntKind) (sz : Nat) (l : List Int) (s : SK) : intsD (.sl sz (intRows k l) s) = l := ints_intRows k l
theorem intsD_nil (sz : Nat) (s : SK) : intsD (.sl sz [] s) = [] := rfl
theorem isInts_inv {k : IntKind} {d : DV} (h : isInts k d) : ∃ sz s, d = .sl sz (intRows k (intsD d)) s ∧ (sz = 1 ∨ intsD d = []) ∧ inK k (intsD d) := by
  cases d with
  | sl sz rows s =>
    obtain ⟨h1, h2, h3⟩ := h
    refine ⟨sz, s, ?_, h2.imp id fun h => (by subst h; rfl), h3⟩
    show DV.sl sz rows s = .sl sz (intRows k (ints rows)) s
    rw [← h1]
  | _ => exact h.elim
theorem wI64 {n : Int} (h1 : -9223372036854775808 ≤ n) (h2 : n ≤ 9223372036854775807) : IntKind.i64.wrap n = n := by rw [IntKind.wrap_i64]; omega
theorem wI32 {n : Int} (h1 : -2147483648 ≤ n) (h2 : n ≤ 2147483647) : IntKind.i32.wrap n = n := by rw [IntKind.wrap_i32]; omega
def allP (p : DV → Prop) : List DV → Prop
  | [] => True
  | c :: l => p c ∧ allP p l
theorem allP_eq (p : DV → Prop) : ∀ l : List DV, allP p l = ∀ c ∈ l, p c
  | [] => by simp [allP]
  | c :: l => by simp [allP, allP_eq p l]
def notIn (a : Nat) : List Nat → Prop
  | [] => True
  | b :: l => ¬ a = b ∧ notIn a l
theorem notIn_eq (a : Nat) : ∀ l : List Nat, notIn a l = (a ∉ l)
  | [] => by simp [notIn]
  | b :: l => by simp [notIn, notIn_eq a l]
def ndup : List Nat → Prop
  | [] => True
  | a :: l => notIn a l ∧ ndup l
theorem ndup_eq : ∀ l : List Nat, ndup l = l.Nodup
  | [] => by simp [ndup]
  | a :: l => by simp [ndup, ndup_eq l, notIn_eq]
theorem ids0_int (k : IntKind) (v : Int) : ids0 (.int k v) = [] := nrfl _
theorem idsA_int (k : IntKind) (v : Int) : idsA (.int k v) = [] := nrfl _
theorem idsT_int (k : IntKind) (v : Int) : idsT (.int k v) = [] := nrfl _
theorem can0_int (n : Nat) (ids : List Nat) (k : IntKind) (v : Int) : can0 n ids (.int k v) = .int k v := nrfl _
theorem canA_int (n : Nat) (ids : List Nat) (k : IntKind) (v : Int) : canA n ids (.int k v) = .int k v := nrfl _
theorem canT_int (n : Nat) (ids : List Nat) (k : IntKind) (v : Int) : canT n ids (.int k v) = .int k v := nrfl _
theorem cl0_int (k : IntKind) (v : Int) : cl0 (.int k v) = True := nrfl _
theorem clA_int (k : IntKind) (v : Int) : clA (.int k v) = True := nrfl _
theorem clT_int (k : IntKind) (v : Int) : clT (.int k v) = True := nrfl _
theorem ids0_bool (b : Bool) : ids0 (.bool b) = [] := nrfl _
theorem idsA_bool (b : Bool) : idsA (.bool b) = [] := nrfl _
theorem idsT_bool (b : Bool) : idsT (.bool b) = [] := nrfl _
theorem can0_bool (n : Nat) (ids : List Nat) (b : Bool) : can0 n ids (.bool b) = .bool b := nrfl _
theorem canA_bool (n : Nat) (ids : List Nat) (b : Bool) : canA n ids (.bool b) = .bool b := nrfl _
theorem canT_bool (n : Nat) (ids : List Nat) (b : Bool) : canT n ids (.bool b) = .bool b := nrfl _
theorem cl0_bool (b : Bool) : cl0 (.bool b) = True := nrfl _
theorem clA_bool (b : Bool) : clA (.bool b) = True := nrfl _
theorem clT_bool (b : Bool) : clT (.bool b) = True := nrfl _
theorem ids0_str (s : List UInt8) : ids0 (.str s) = [] := nrfl _
theorem idsA_str (s : List UInt8) : idsA (.str s) = [] := nrfl _
theorem idsT_str (s : List UInt8) : idsT (.str s) = [] := nrfl _
theorem can0_str (n : Nat) (ids : List Nat) (s : List UInt8) : can0 n ids (.str s) = .str s := nrfl _
theorem canA_str (n : Nat) (ids : List Nat) (s : List UInt8) : canA n ids (.str s) = .str s := nrfl _
theorem canT_str (n : Nat) (ids : List Nat) (s : List UInt8) : canT n ids (.str s) = .str s := nrfl _
theorem cl0_str (s : List UInt8) : cl0 (.str s) = True := nrfl _
theorem clA_str (s : List UInt8) : clA (.str s) = True := nrfl _
theorem clT_str (s : List UInt8) : clT (.str s) = True := nrfl _
theorem ids0_sl (sz : Nat) (rows : List (List DV)) (k : SK) : ids0 (.sl sz rows k) = [] := nrfl _
theorem idsA_sl (sz : Nat) (rows : List (List DV)) (k : SK) : idsA (.sl sz rows k) = [] := nrfl _
theorem idsT_sl (sz : Nat) (rows : List (List DV)) (k : SK) : idsT (.sl sz rows k) = [] := nrfl _
theorem can0_sl (n : Nat) (ids : List Nat) (sz : Nat) (rows : List (List DV)) (k : SK) : can0 n ids (.sl sz rows k) = .sl sz rows k := nrfl _
theorem canA_sl (n : Nat) (ids : List Nat) (sz : Nat) (rows : List (List DV)) (k : SK) : canA n ids (.sl sz rows k) = .sl sz rows k := nrfl _
theorem canT_sl (n : Nat) (ids : List Nat) (sz : Nat) (rows : List (List DV)) (k : SK) : canT n ids (.sl sz rows k) = .sl sz rows k := nrfl _
theorem cl0_sl (sz : Nat) (rows : List (List DV)) (k : SK) : cl0 (.sl sz rows k) = ClRows rows := nrfl _
theorem clA_sl (sz : Nat) (rows : List (List DV)) (k : SK) : clA (.sl sz rows k) = ClRows rows := nrfl _
theorem clT_sl (sz : Nat) (rows : List (List DV)) (k : SK) : clT (.sl sz rows k) = ClRows rows := nrfl _
theorem ids0_own (o off m : Nat) : ids0 (.own o off m) = [o] := nrfl _
theorem idsA_own (o off m : Nat) : idsA (.own o off m) = [o] := nrfl _
theorem idsT_own (o off m : Nat) : idsT (.own o off m) = [o] := nrfl _
theorem can0_own (n : Nat) (ids : List Nat) (o off m : Nat) : can0 n ids (.own o off m) = .own (n + pos o ids) off m := nrfl _
theorem canA_own (n : Nat) (ids : List Nat) (o off m : Nat) : canA n ids (.own o off m) = .own (n + pos o ids) off m := nrfl _
theorem canT_own (n : Nat) (ids : List Nat) (o off m : Nat) : canT n ids (.own o off m) = .own (n + pos o ids) off m := nrfl _
theorem cl0_own (o off m : Nat) : cl0 (.own o off m) = True := nrfl _
theorem clA_own (o off m : Nat) : clA (.own o off m) = True := nrfl _
theorem clT_own (o off m : Nat) : clT (.own o off m) = True := nrfl _
theorem ids0_ptr (o i j : Nat) : ids0 (.ptr o i j) = [o] := nrfl _
theorem idsA_ptr (o i j : Nat) : idsA (.ptr o i j) = [o] := nrfl _
theorem idsT_ptr (o i j : Nat) : idsT (.ptr o i j) = [o] := nrfl _
theorem can0_ptr (n : Nat) (ids : List Nat) (o i j : Nat) : can0 n ids (.ptr o i j) = .ptr (n + pos o ids) i j := nrfl _
theorem canA_ptr (n : Nat) (ids : List Nat) (o i j : Nat) : canA n ids (.ptr o i j) = .ptr (n + pos o ids) i j := nrfl _
theorem canT_ptr (n : Nat) (ids : List Nat) (o i j : Nat) : canT n ids (.ptr o i j) = .ptr (n + pos o ids) i j := nrfl _
theorem cl0_ptr (o i j : Nat) : cl0 (.ptr o i j) = True := nrfl _
theorem clA_ptr (o i j : Nat) : clA (.ptr o i j) = True := nrfl _
theorem clT_ptr (o i j : Nat) : clT (.ptr o i j) = True := nrfl _
theorem idsA_agg (cs : List DV) : idsA (.agg cs) = cs.flatMap ids0 := nrfl _
theorem idsT_agg (cs : List DV) : idsT (.agg cs) = cs.flatMap ids0 := nrfl _
theorem idsT_tup (cs : List DV) : idsT (.tup cs) = cs.flatMap idsA := nrfl _
theorem canA_agg (n : Nat) (ids : List Nat) (cs : List DV) : canA n ids (.agg cs) = .agg (cs.map (can0 n ids)) := nrfl _
theorem canT_agg (n : Nat) (ids : List Nat) (cs : List DV) : canT n ids (.agg cs) = .agg (cs.map (can0 n ids)) := nrfl _
theorem canT_tup (n : Nat) (ids : List Nat) (cs : List DV) : canT n ids (.tup cs) = .tup (cs.map (canA n ids)) := nrfl _
theorem clA_agg (cs : List DV) : clA (.agg cs) = allP cl0 cs := by simp [clA, allP_eq]
theorem clT_agg (cs : List DV) : clT (.agg cs) = allP cl0 cs := by simp [clT, clA, allP_eq]
theorem clT_tup (cs : List DV) : clT (.tup cs) = allP clA cs := by simp [clT, allP_eq]
theorem pos_nil (o : Nat) : pos o [] = 0 := nrfl _
theorem pos_cons (o a : Nat) (l : List Nat) : pos o (a :: l) = if a = o then 0 else pos o l + 1 := nrfl _
theorem clOb_arr (sz : Nat) (rows : List (List DV)) : clOb (.arr sz rows) = ClRows rows := nrfl _
theorem clOb_box (cs : List DV) : clOb (.box cs) = allP Cl cs := by simp [clOb, allP_eq]
theorem allP_nil (p : DV → Prop) : allP p [] = True := nrfl _
theorem allP_cons (p : DV → Prop) (c : DV) (l : List DV) : allP p (c :: l) = (p c ∧ allP p l) := nrfl _
theorem ndup_nil  : ndup [] = True := nrfl _
theorem ndup_cons (a : Nat) (l : List Nat) : ndup (a :: l) = (notIn a l ∧ ndup l) := nrfl _
theorem notIn_nil (a : Nat) : notIn a [] = True := nrfl _
theorem notIn_cons (a b : Nat) (l : List Nat) : notIn a (b :: l) = (¬ a = b ∧ notIn a l) := nrfl _
theorem goIds_nil (n : Nat) (T : Objs) (k : Objs → Prop) : goIds n T [] k = k [] := nrfl _
theorem goIds_cons (n : Nat) (T : Objs) (i : Nat) (l : List Nat) (k : Objs → Prop) : goIds n T (i :: l) k = (n ≤ i ∧ bindO T[i]? fun x => bindO x fun ob => clOb ob ∧ goIds n T l fun os => k (some ob :: os)) := nrfl _
theorem retV_eq (n : Nat) (d : DV) (T : Objs) (K : DV → Objs → Prop) : retV n d T K = (ndup (idsT d) ∧ clT d ∧ goIds n T (idsT d) fun os => K (canT n (idsT d) d) os) := by simp [retV, ndup_eq]
theorem ClRows_cons (row : List DV) (l : List (List DV)) : ClRows (row :: l) = (allP Cl row ∧ ClRows l) := by simp [ClRows, allP_eq]
theorem ClRows_nil_eq  : ClRows [] = True := eq_true ClRows_nil
theorem ClRows_int_eq (k : IntKind) (l : List Int) : ClRows (intRows k l) = True := eq_true (ClRows_int k l)
theorem ClRows_one_eq (k : IntKind) (v : Int) : ClRows [[.int k v]] = True := eq_true (ClRows_int k [v])
theorem Cl_int_eq (k : IntKind) (v : Int) : Cl (.int k v) = True := eq_true (Cl.int k v)
theorem Cl_bool_eq (b : Bool) : Cl (.bool b) = True := eq_true (Cl.bool b)
theorem Cl_str_eq (s : List UInt8) : Cl (.str s) = True := eq_true (Cl.str s)
theorem wk_mk (e e2 : List (Nat × DV)) (o o2 : Objs) : St.wk ⟨e, o⟩ ⟨e2, o2⟩ = (envWk e e2 ∧ objsWk o o2) := nrfl _
theorem envWk_nil (e : List (Nat × DV)) : envWk e [] = True := by simp [envWk]
theorem envWk_cons {e : List (Nat × DV)} {t : Nat} {d : DV} {l : List (Nat × DV)} : envWk e ((t, d) :: l) = ((d = .undef ∨ wkT (St.look t e) d) ∧ envWk e l) := by
  simp [envWk]
theorem bindO_getI (l : List Int) (n : Nat) (f : Int → Prop) : bindO l[n]? f = (n < l.length ∧ f (l.getD n 0)) := by
  by_cases h : n < l.length
  · simp [List.getElem?_eq_getElem h, bindO, h]
  · simp [List.getElem?_eq_none (Nat.le_of_not_lt h), bindO, h]
theorem bindO_getU (l : List UInt8) (n : Nat) (f : UInt8 → Prop) : bindO l[n]? f = (n < l.length ∧ f (l.getD n 0)) := by
  by_cases h : n < l.length
  · simp [List.getElem?_eq_getElem h, bindO, h]
  · simp [List.getElem?_eq_none (Nat.le_of_not_lt h), bindO, h]
theorem objsWk_self (o : Objs) : objsWk o o = True := eq_true (objsWk_refl o)
theorem objsWk_nil : objsWk [] [] = True := nrfl _
theorem objsWk_none (a : Option Ob) (l m : Objs) : objsWk (a :: l) (none :: m) = objsWk l m := by simp [objsWk]
theorem objsWk_some (a b : Ob) (l m : Objs) : objsWk (some a :: l) (some b :: m) = (a = b ∧ objsWk l m) := by simp [objsWk]
theorem ofInt_toNat (w : Nat) (a : Int) : (((BitVec.ofInt w a).toNat : Nat) : Int) = a % (2 ^ w : Int) := by
  rw [BitVec.toNat_ofInt, Int.toNat_of_nonneg (Int.emod_nonneg _ (by exact_mod_cast Nat.ne_of_gt (Nat.two_pow_pos w)))]
  simp
theorem ofInt_mask (w m : Nat) (h : m ≤ w) : (BitVec.ofInt w (2 ^ m - 1)).toNat = 2 ^ m - 1 := by
  have h2 : (2 : Nat) ^ m ≤ 2 ^ w := Nat.pow_le_pow_right (by omega) h
  have h3 := Nat.two_pow_pos m
  have h4 := ofInt_toNat w (2 ^ m - 1)
  have h6 : (1 : Int) ≤ 2 ^ m := by exact_mod_cast h3
  have h7 : (2 : Int) ^ m ≤ 2 ^ w := by exact_mod_cast h2
  rw [Int.emod_eq_of_lt (by omega) (by omega)] at h4
  have : ((2 ^ m - 1 : Nat) : Int) = 2 ^ m - 1 := by rw [Int.natCast_sub h3]; simp
  omega
theorem andMask (w m : Nat) (a : Int) (h : m ≤ w) : (((BitVec.ofInt w a &&& BitVec.ofInt w (2 ^ m - 1)).toNat : Nat) : Int) = a % (2 ^ m : Int) := by
  rw [BitVec.toNat_and, ofInt_mask w m h, Nat.and_two_pow_sub_one_eq_mod]
  have h2 := ofInt_toNat w a
  rw [Int.natCast_emod, h2]
  simp only [Int.natCast_pow, Int.cast_ofNat_Int]
  exact Int.emod_emod_of_dvd a (by exact_mod_cast Nat.pow_dvd_pow 2 h)
theorem wrap_small (k : IntKind) (m : Nat) (x : Int) (h : m < k.bits) : k.wrap (x % (2 ^ m : Int)) = x % (2 ^ m : Int) := by
  have h0 : (0 : Int) < 2 ^ m := by exact_mod_cast Nat.two_pow_pos m
  have h1 := Int.emod_nonneg x (Int.ne_of_gt h0)
  have h2 := Int.emod_lt_of_pos x h0
  have h3 : (2 : Int) ^ m ≤ 2 ^ (k.bits - 1) := by exact_mod_cast Nat.pow_le_pow_right (by omega) (by omega)
  have h4 : (2 : Int) ^ (k.bits - 1) ≤ 2 ^ k.bits := by exact_mod_cast Nat.pow_le_pow_right (by omega) (by omega)
  unfold IntKind.wrap
  simp only
  rw [Int.emod_eq_of_lt h1 (by omega)]
  rw [if_neg]
  simp
  intro _
  omega
theorem and_mask (k : IntKind) (m : Nat) (a : Int) (h : m < k.bits) : k.wrap ((BitVec.ofInt k.bits a &&& BitVec.ofInt k.bits (2 ^ m - 1)).toNat : Nat) = a % (2 ^ m : Int) := by
  rw [andMask k.bits m a (Nat.le_of_lt h), wrap_small k m a h]
theorem and7_u8 (a : Int) : IntKind.u8.wrap ((BitVec.ofInt IntKind.u8.bits a &&& BitVec.ofInt IntKind.u8.bits 7).toNat : Nat) = a % 8 := and_mask .u8 3 a (by decide)
theorem and15_u8 (a : Int) : IntKind.u8.wrap ((BitVec.ofInt IntKind.u8.bits a &&& BitVec.ofInt IntKind.u8.bits 15).toNat : Nat) = a % 16 := and_mask .u8 4 a (by decide)
theorem and31_u8 (a : Int) : IntKind.u8.wrap ((BitVec.ofInt IntKind.u8.bits a &&& BitVec.ofInt IntKind.u8.bits 31).toNat : Nat) = a % 32 := and_mask .u8 5 a (by decide)
theorem and63_u8 (a : Int) : IntKind.u8.wrap ((BitVec.ofInt IntKind.u8.bits a &&& BitVec.ofInt IntKind.u8.bits 63).toNat : Nat) = a % 64 := and_mask .u8 6 a (by decide)
theorem or_add (w m : Nat) (x y : Int) (hx : x % 2 ^ m = 0) (h0 : 0 ≤ x) (hy : 0 ≤ y) (hy2 : y < 2 ^ m) (hw : x + y < 2 ^ w) : (((BitVec.ofInt w x ||| BitVec.ofInt w y).toNat : Nat) : Int) = x + y := by
  have h1 := ofInt_toNat w x
  have h2 := ofInt_toNat w y
  rw [Int.emod_eq_of_lt h0 (by omega)] at h1
  rw [Int.emod_eq_of_lt hy (by omega)] at h2
  rw [BitVec.toNat_or]
  generalize (BitVec.ofInt w x).toNat = a at h1 ⊢
  generalize (BitVec.ofInt w y).toNat = b at h2 ⊢
  subst h1 h2
  have hb : b < 2 ^ m := by exact_mod_cast hy2
  have ha : a % 2 ^ m = 0 := by exact_mod_cast hx
  have : a = 2 ^ m * (a / 2 ^ m) := by
    have := Nat.div_add_mod a (2 ^ m)
    omega
  rw [this, ← Nat.two_pow_add_eq_or_of_lt hb]
  simp
theorem or_i32 (m : Nat) (x y : Int) (hx : x % 2 ^ m = 0) (h0 : 0 ≤ x) (hy : 0 ≤ y) (hy2 : y < 2 ^ m) (hw : x + y ≤ 2147483647) : IntKind.i32.wrap ((BitVec.ofInt IntKind.i32.bits x ||| BitVec.ofInt IntKind.i32.bits y).toNat : Nat) = x + y := by
  rw [or_add IntKind.i32.bits m x y hx h0 hy hy2 (by simp only [IntKind.bits]; omega), wI32 (by omega) (by omega)]
theorem PCalls.weaken {E : Prg} {f : Nat} {args : List DV} {R R2 : Nat → DV → Objs → Prop} (h : PCalls E f args R) (hR : ∀ n r os, R n r os → ∃ r2, wkT r r2 ∧ R2 n r2 os) : PCalls E f args R2 := by
  intro n G w vs h1 h2 h3 h4
  refine Calls.mono (h n G w vs h1 h2 h3 h4) fun e w' ⟨v, r, T', G', a, ⟨os, ho, hr⟩, hl, hrel, hh, hf⟩ => ?_
  obtain ⟨r2, hw, hr2⟩ := hR n r os hr
  exact ⟨v, r2, T', G', a, ⟨os, ho, hr2⟩, hl, wkT_rel hw hrel, hh, hf⟩
theorem PCalls.args {E : Prg} {f : Nat} {args args2 : List DV} {R : Nat → DV → Objs → Prop} (h : PCalls E f args R) (hl : args2.length = args.length) (hw : ∀ (G : Gh) (i : Nat) d2 v, args2[i]? = some d2 → Rel G d2 v → ∃ d, args[i]? = some d ∧ Rel G d v) : PCalls E f args2 R := by
  intro n G w vs h1 h2 h3 h4
  refine h n G w vs h1 h2 (h3.trans hl) fun i d hd => ?_
  have hi : i < args2.length := by rw [hl]; exact (List.getElem?_eq_some_iff.1 hd).1
  obtain ⟨d', hd', hr⟩ := hw G i args2[i] _ (List.getElem?_eq_getElem hi) (h4 i _ (List.getElem?_eq_getElem hi))
  rw [hd] at hd'
  obtain rfl := sj hd'
  exact hr
theorem Rel.any_split {G : Gh} {sz : Nat} {rows : List (List DV)} {k : SK} {v : Value} (h : Rel G (.sl sz rows k) v) : (rows = [] ∧ Rel G (.sl sz rows .nil) v) ∨ Rel G (.sl sz rows .nonnil) v := by
  cases h with
  | sl sz rows k p len cap b o vals a1 a2 a3 a4 a5 a6 a7 =>
    cases p with
    | none =>
      have hr : rows = [] := by
        by_cases hr : rows = []
        · exact hr
        · cases a4 hr
      have hc : cap = 0 := by
        cases k with
        | any => exact a2 rfl
        | nil => exact a2.2
        | nonnil => cases a2
        | zero => exact a2
      exact .inl ⟨hr, .sl sz rows .nil none len cap b o vals a1 ⟨rfl, hc⟩ a3 a4 a5 a6 a7⟩
    | some x => exact .inr (.sl sz rows .nonnil _ len cap b o vals a1 rfl a3 a4 a5 a6 a7)
theorem PCalls.any_arg {E : Prg} {f : Nat} {i : Nat} {args : List DV} {sz : Nat} {rows : List (List DV)} {k : SK} {R : Nat → DV → Objs → Prop} (hi : args[i]? = some (.sl sz rows k)) (h1 : rows = [] → PCalls E f (args.set i (.sl sz rows .nil)) R) (h2 : PCalls E f (args.set i (.sl sz rows .nonnil)) R) : PCalls E f args R := by
  intro n G w vs g1 g2 g3 g4
  have hlt : i < args.length := (List.getElem?_eq_some_iff.1 hi).1
  have rest : ∀ x, Rel G x (vs.getD i undef) → ∀ (j : Nat) d, (args.set i x)[j]? = some d → Rel G d (vs.getD j undef) := fun x hx j d hd => by
    by_cases e : i = j
    · subst e
      rw [List.getElem?_set_self hlt] at hd
      obtain rfl := sj hd
      exact hx
    · rw [List.getElem?_set_ne e] at hd
      exact g4 j d hd
  rcases (g4 i _ hi).any_split with ⟨hr, h⟩ | h
  · exact h1 hr n G w vs g1 g2 (by simpa using g3) (rest _ h)
  · exact h2 n G w vs g1 g2 (by simpa using g3) (rest _ h)
theorem PCalls.by_fn {E : Prg} {F : FTab} (hF : FOk E F) {f : Nat} {ann : List Ann} {rf : RFn} {args : List DV} {res : Nat → DV × Objs} (hc : compFn E.P ann f = some rf) (hargs : args.length ≤ rf.n)
    (h : ∀ n, rf.code.wp E F rf.n (finQ rf.res fun d T' => n ≤ T'.length ∧ retV n d T' fun d' os => wkT d' (res n).1 ∧ os = (res n).2) ⟨initEnv 0 args, List.replicate n none⟩) : PCalls E f args fun n r os => r = (res n).1 ∧ os = (res n).2 := by
  have h1 : PCalls E f args fun n r os => wkT r (res n).1 ∧ os = (res n).2 := by
    intro n
    have h1 : GCalls E f args (List.replicate n none) fun r T' => retV n r T' fun d' os => wkT d' (res n).1 ∧ os = (res n).2 := by
      refine GCalls.of_fn hF hc hargs (RC.wp_mono _ (h n) fun e st hh => ?_)
      have key : ∀ st : St, (match resOf st rf.res with
          | some d => n ≤ st.objs.length ∧ retV n d st.objs fun d' os => wkT d' (res n).1 ∧ os = (res n).2
          | none => False) → (match resOf st rf.res with
          | some d => (List.replicate n (none : Option Ob)).length ≤ st.objs.length ∧ retV n d st.objs fun d' os => wkT d' (res n).1 ∧ os = (res n).2
          | none => False) := fun st hh => by
        cases hres : resOf st rf.res with
        | none => rw [hres] at hh; exact hh
        | some d => rw [hres] at hh; exact ⟨by simpa using hh.1, hh.2⟩
      cases e with
      | normal => exact key st hh
      | ret => exact key st hh
      | _ => exact hh
    exact (h1.canon fun r T' hr => by
      obtain ⟨g, r', os, hg, hK⟩ := retV_spec hr
      exact ⟨g, r', os, hg, os, rfl, hK⟩)
  exact h1.weaken fun n r os ⟨h1, h2⟩ => ⟨_, h1, rfl, h2⟩
theorem intRows_fold1 (k : IntKind) (a : Int) : [[DV.int k a]] = intRows k [a] := nrfl _
theorem intRows_foldc (k : IntKind) (a : Int) (l : List Int) : [DV.int k a] :: intRows k l = intRows k (a :: l) := nrfl _
theorem wkT_tup (a b : List DV) : wkT (.tup a) (.tup b) = wkL wkA a b := nrfl _
theorem wkT_agg (a b : List DV) : wkT (.agg a) (.agg b) = wkL wk0 a b := nrfl _
theorem wkA_agg (a b : List DV) : wkA (.agg a) (.agg b) = wkL wk0 a b := nrfl _
theorem wkL_nil (p : DV → DV → Prop) : wkL p [] [] = True := nrfl _
theorem wkL_cons (p : DV → DV → Prop) (x y : DV) (a b : List DV) : wkL p (x :: a) (y :: b) = (p x y ∧ wkL p a b) := nrfl _
theorem wkT_sl (sz : Nat) (rows : List (List DV)) (k : SK) (sz2 : Nat) (rows2 : List (List DV)) (k2 : SK) : wkT (.sl sz rows k) (.sl sz2 rows2 k2) = (rows = rows2 ∧ (k2 = .any ∨ k = k2) ∧ (sz = sz2 ∨ rows = [])) := nrfl _
theorem wkA_sl (sz : Nat) (rows : List (List DV)) (k : SK) (sz2 : Nat) (rows2 : List (List DV)) (k2 : SK) : wkA (.sl sz rows k) (.sl sz2 rows2 k2) = (rows = rows2 ∧ (k2 = .any ∨ k = k2) ∧ (sz = sz2 ∨ rows = [])) := nrfl _
theorem wk0_sl (sz : Nat) (rows : List (List DV)) (k : SK) (sz2 : Nat) (rows2 : List (List DV)) (k2 : SK) : wk0 (.sl sz rows k) (.sl sz2 rows2 k2) = (rows = rows2 ∧ (k2 = .any ∨ k = k2) ∧ (sz = sz2 ∨ rows = [])) := nrfl _
theorem wkT_int (k : IntKind) (n : Int) (d : DV) : wkT (.int k n) d = (DV.int k n = d) := nrfl _
theorem wkA_int (k : IntKind) (n : Int) (d : DV) : wkA (.int k n) d = (DV.int k n = d) := nrfl _
theorem wk0_int (k : IntKind) (n : Int) (d : DV) : wk0 (.int k n) d = (DV.int k n = d) := nrfl _
theorem wkT_bool (b : Bool) (d : DV) : wkT (.bool b) d = (DV.bool b = d) := nrfl _
theorem wkA_bool (b : Bool) (d : DV) : wkA (.bool b) d = (DV.bool b = d) := nrfl _
theorem wk0_bool (b : Bool) (d : DV) : wk0 (.bool b) d = (DV.bool b = d) := nrfl _
theorem wkT_str (s : List UInt8) (d : DV) : wkT (.str s) d = (DV.str s = d) := nrfl _
theorem wkA_str (s : List UInt8) (d : DV) : wkA (.str s) d = (DV.str s = d) := nrfl _
theorem wk0_str (s : List UInt8) (d : DV) : wk0 (.str s) d = (DV.str s = d) := nrfl _
theorem wkT_own (o off n : Nat) (d : DV) : wkT (.own o off n) d = (DV.own o off n = d) := nrfl _
theorem wkA_own (o off n : Nat) (d : DV) : wkA (.own o off n) d = (DV.own o off n = d) := nrfl _
theorem wk0_own (o off n : Nat) (d : DV) : wk0 (.own o off n) d = (DV.own o off n = d) := nrfl _
theorem wkT_ptr (o i j : Nat) (d : DV) : wkT (.ptr o i j) d = (DV.ptr o i j = d) := nrfl _
theorem wkA_ptr (o i j : Nat) (d : DV) : wkA (.ptr o i j) d = (DV.ptr o i j = d) := nrfl _
section
open Go.RowKit Go.ChangeShapes Go.WideShapes
inductive CS where
  | int (k : IntKind)
  | bool
  | str
  | sl (row : List CS)
def shFs (P : Program) (sh : TypeId → Option (List CS)) : List Field → Nat → Option (List CS)
  | [], _ => some []
  | f :: fs, off => match sh f.type with
    | some l => if f.offset = off ∧ P.cellsOf f.type = l.length then (shFs P sh fs (off + l.length)).map (l ++ ·) else none
    | none => none
def shOf (P : Program) : Nat → TypeId → Option (List CS)
  | 0, _ => none
  | n + 1, t => match P.underlying t with
    | some .bool => some [.bool]
    | some (.int k) => some [.int k]
    | some .string => some [.str]
    | some (.slice e) => match shOf P n e with
      | some row => if row.length = P.cellsOf e ∧ 0 < row.length then some [.sl row] else none
      | none => none
    | some (.struct fs) => match shFs P (shOf P n) fs.toList 0 with
      | some l => if l.length = P.cellsOf t then some l else none
      | none => none
    | _ => none
inductive Conf : CS → DV → Prop where
  | int (k : IntKind) (n : Int) : k.min ≤ n → n ≤ k.max → Conf (.int k) (.int k n)
  | bool (b : Bool) : Conf .bool (.bool b)
  | str (s : List UInt8) : s.length ≤ 9223372036854775807 → Conf .str (.str s)
  | sl (row : List CS) (rows : List (List DV)) : rows.length ≤ 9223372036854775807 → (∀ r ∈ rows, r.length = row.length) →
      (∀ r ∈ rows, ∀ (i : Nat) c d, row[i]? = some c → r[i]? = some d → Conf c d) → Conf (.sl row) (.sl row.length rows .any)
def Gh.all (w : World) : Gh := { rd := fun a => match w.cell? a with | some v => if v.oneCell' = true then some v else none | none => none, pl := fun _ => none }
theorem Gh.all_rd {w : World} {a : Addr} {v : Value} (h : w.cell? a = some v) (h1 : v.oneCell' = true) : (Gh.all w).rd a = some v := by simp [Gh.all, h, h1]
theorem Gh.all_heap (w : World) : Heap (Gh.all w) [] w where
  pls := fun k p h => by simp [Gh.all] at h
  live := fun k ob h => by simp at h
  sep := fun k k' rows rows' p p' m m' h => by simp at h
  rdv := fun a v h => by
    simp only [Gh.all] at h
    split at h
    · rename_i x hx
      split at h
      · rename_i h1; obtain rfl := sj h; exact ⟨hx, h1⟩
      · cases h
    · cases h
  rds := fun k rows p m h => by simp at h
section
variable {H : Type} {enc : TypeId × Value → H} {P : Program} {w : World}
theorem addr_add_add (a : Addr) (m n : Nat) : (a.add m).add n = a.add (m + n) := by
  simp only [Addr.add]
  by_cases hm : m = 0
  · subst hm; simp
  · by_cases hn : n = 0
    · subst hn; simp
    · simp [hm, hn, Nat.add_assoc]
theorem addr_add_plain {a : Addr} (h : a.spot = none) (n : Nat) : a.add n = ⟨a.block, a.off + n, none⟩ := by
  cases a
  simp at h
  subst h
  simp only [Addr.add]
  split
  · rename_i h; subst h; rfl
  · rfl
def RelCs (w : World) (l : List CS) (cs : List Value) : Prop :=
  cs.length = l.length ∧ ∃ ds : List DV, ds.length = l.length ∧ ∀ (i : Nat) c d v, l[i]? = some c → ds[i]? = some d → cs[i]? = some v → Conf c d ∧ Rel (Gh.all w) d v ∧ v.oneCell' = true
theorem RelCs.one {c : CS} {v : Value} {d : DV} (h : Conf c d) (h2 : Rel (Gh.all w) d v) (h3 : v.oneCell' = true) : RelCs w [c] [v] := by
  refine ⟨rfl, [d], rfl, fun i c' d' v' hc hd hv => ?_⟩
  rcases i with _ | i
  · simp at hc hd hv; subst hc hd hv; exact ⟨h, h2, h3⟩
  · simp at hc
theorem RelCs.append {l l' : List CS} {cs cs' : List Value} (h : RelCs w l cs) (h' : RelCs w l' cs') : RelCs w (l ++ l') (cs ++ cs') := by
  obtain ⟨h1, ds, h2, h3⟩ := h
  obtain ⟨h1', ds', h2', h3'⟩ := h'
  refine ⟨by simp [h1, h1'], ds ++ ds', by simp [h2, h2'], fun i c d v hc hd hv => ?_⟩
  by_cases hi : i < l.length
  · rw [List.getElem?_append_left (by omega)] at hc hd hv
    exact h3 i c d v hc hd hv
  · rw [List.getElem?_append_right (by omega)] at hc hd hv
    rw [h2] at hd; rw [h1] at hv
    exact h3' _ c d v hc hd hv
theorem shFs_rel {sh : TypeId → Option (List CS)} {base m : Nat} {held : Bool} {spare : Nat → Bool}
    (ih : ∀ t l, sh t = some l → ∀ cs x, DataW.trod enc P w base spare held m t cs = some x → RelCs w l cs) : ∀ (fs : List Field) (off : Nat) (l : List CS) (cs : List Value), shFs P sh fs off = some l → cs.length = off + l.length →
    (∀ f ∈ fs, ∃ x, DataW.trod enc P w base spare held m f.type ((cs.drop f.offset).take (P.cellsOf f.type)) = some x) → RelCs w l (cs.drop off)
  | [], off, l, cs, h, hl, hx => by
    obtain rfl := sj h
    have : cs.drop off = [] := List.drop_eq_nil_of_le (by simp at hl; omega)
    rw [this]
    exact ⟨rfl, [], rfl, fun i c d v hc => by simp at hc⟩
  | f :: fs, off, l, cs, h, hl, hx => by
    simp only [shFs] at h
    split at h
    · rename_i lf hlf
      split at h
      · rename_i hc
        cases hr : shFs P sh fs (off + lf.length) with
        | none => rw [hr] at h; cases h
        | some lr =>
          rw [hr] at h
          obtain rfl := sj h
          obtain ⟨x, hx1⟩ := hx f (by simp)
          rw [hc.1, hc.2] at hx1
          have h1 := ih _ _ hlf _ _ hx1
          have h2 := shFs_rel ih fs (off + lf.length) lr cs hr (by simp at hl; omega) fun f hf => hx f (by simp [hf])
          have : cs.drop off = (cs.drop off).take lf.length ++ cs.drop (off + lf.length) := by rw [← List.drop_drop, List.take_append_drop]
          rw [this]
          exact h1.append h2
      · cases h
    · cases h
theorem trod_rel {base : Nat} {held : Bool} {spare : Nat → Bool} : ∀ (n : Nat) (t : TypeId) (l : List CS), shOf P n t = some l → ∀ (fuel : Nat) (cs : List Value) (x : DataW H × List MemPlace),
    DataW.trod enc P w base spare held fuel t cs = some x → RelCs w l cs
  | 0, t, l, h, _, _, _, _ => by cases h
  | n + 1, t, l, h, fuel, cs, x, hx => by
    simp only [shOf] at h
    split at h
    · rename_i ht; obtain rfl := sj h
      obtain ⟨b, rfl, rfl⟩ := DataW.trod_bool ht hx
      exact .one (.bool b) (.bool b) rfl
    · rename_i k ht; obtain rfl := sj h
      obtain ⟨n, rfl, rfl, hw⟩ := DataW.trod_int ht hx
      have : k.min ≤ n ∧ n ≤ k.max := by simpa [Lit.wf] using hw
      exact .one (.int k n this.1 this.2) (.int k n) rfl
    · rename_i ht; obtain rfl := sj h
      obtain ⟨s, rfl, rfl, hw⟩ := DataW.trod_string ht hx
      have e : s = ⟨s.data.toList.toArray⟩ := by cases s; rfl
      refine .one (d := .str s.data.toList) (.str _ (by have : s.size = s.data.toList.length := (by cases s; rfl); rw [← this]; have h2 : maxLen = 9223372036854775807 := (by decide); omega)) ?_ rfl
      rw [e]; exact .str _
    · rename_i e ht
      split at h
      · rename_i row hrow
        split at h
        · rename_i hc
          obtain rfl := sj h
          rcases DataW.trod_slice ht hx with ⟨rfl, rfl⟩ | ⟨a, len, cap, elems, rest, m, _, rfl, rfl, hb, hl, hm, hlen, hel, _, _⟩
          · refine .one (d := .sl row.length [] .any) (.sl row [] (by simp) (by simp) (by simp)) ?_ rfl
            exact .sl _ _ _ _ _ _ 0 0 (fun _ _ => Go.undef) rfl (fun _ => rfl) (Nat.le_refl _) (by simp) (by simp) (by simp) (by simp)
          · have key : ∀ i, ∃ cs' : List Value, ∃ ds : List DV, i < len → ds.length = row.length ∧ cs'.length = row.length ∧ (∀ j, j < row.length → w.cell? (a.add (i * row.length + j)) = cs'[j]?) ∧
                ∀ (j : Nat) c d v, row[j]? = some c → ds[j]? = some d → cs'[j]? = some v → Conf c d ∧ Rel (Gh.all w) d v ∧ v.oneCell' = true := by
              intro i
              by_cases hi : i < len
              · have h1 := hel i hi
                rw [List.getElem?_eq_getElem (by omega), Option.bind_eq_some_iff] at h1
                obtain ⟨cs', h2, h3⟩ := h1
                obtain ⟨h4, ds, h5, h6⟩ := trod_rel n e row hrow m cs' _ h3
                obtain ⟨_, h7, h8⟩ := World.cells?_some h2
                refine ⟨cs', ds, fun _ => ⟨h5, h4, fun j hj => ?_, h6⟩⟩
                have := h8 j (by omega)
                rw [← hc.1] at this
                rw [← this]
                rw [addr_add_add]
              · exact ⟨[], [], fun h => absurd h hi⟩
            have key2 := Classical.axiomOfChoice key
            obtain ⟨cf, key2⟩ := key2
            have key3 := Classical.axiomOfChoice key2
            obtain ⟨df, key3⟩ := key3
            have hmax : maxLen = 9223372036854775807 := by decide
            have hspot : 0 < len → a.spot = none := fun h0 => by
              obtain ⟨k1, k2, k3, _⟩ := key3 0 h0
              have := k3 0 hc.2
              rw [List.getElem?_eq_getElem (by omega)] at this
              simp only [Nat.zero_mul, Nat.add_zero] at this
              rw [Addr.add, if_pos rfl] at this
              unfold World.cell? at this
              split at this
              · split at this
                · cases this
                · rename_i hs
                  cases hsp : a.spot with
                  | none => rfl
                  | some s => rw [hsp] at hs; simp at hs
              · cases this
            have hrow? : ∀ (i : Nat) (r : List DV), ((List.range len).map df)[i]? = some r → i < len ∧ r = df i := fun i r hr => by
              simp only [List.getElem?_map, Option.map_eq_some_iff] at hr
              obtain ⟨i', hi', rfl⟩ := hr
              have := List.getElem?_range (n := len) (i := i)
              by_cases hi : i < len
              · rw [List.getElem?_range hi] at hi'; obtain rfl := sj hi'; exact ⟨hi, rfl⟩
              · rw [List.getElem?_eq_none (by simp; omega)] at hi'; cases hi'
            refine .one (d := .sl row.length ((List.range len).map df) .any) (.sl row _ (by rw [List.length_map, List.length_range]; exact Nat.le_trans hl (hmax ▸ hm)) ?_ ?_) ?_ rfl
            · intro r hr
              obtain ⟨i, hi⟩ := List.getElem?_of_mem hr
              obtain ⟨hi2, rfl⟩ := hrow? i r hi
              exact (key3 i hi2).1
            · intro r hr j c d h1 h2
              obtain ⟨i, hi⟩ := List.getElem?_of_mem hr
              obtain ⟨hi2, rfl⟩ := hrow? i r hi
              obtain ⟨k1, k2, k3, k4⟩ := key3 i hi2
              have hj : j < row.length := (List.getElem?_eq_some_iff.1 h1).1
              exact (k4 j c d _ h1 h2 (List.getElem?_eq_getElem (by omega))).1
            · refine .sl _ _ _ _ _ _ a.block a.off (fun i j => (cf i).getD j Go.undef) (by simp) (fun h => by cases h) hl ?_ ?_ ?_ ?_
              · intro hne
                have h0 : 0 < len := by
                  rcases Nat.eq_zero_or_pos len with h0 | h0
                  · subst h0; simp at hne
                  · exact h0
                have := hspot h0
                cases a; simp at this; subst this; rfl
              · intro i r hi
                obtain ⟨hi2, rfl⟩ := hrow? i r hi
                exact (key3 i hi2).1
              · intro i j r c hi hj
                obtain ⟨hi2, rfl⟩ := hrow? i r hi
                obtain ⟨k1, k2, k3, k4⟩ := key3 i hi2
                have hj' : j < row.length := by have := (List.getElem?_eq_some_iff.1 hj).1; omega
                have h1 := k3 j hj'
                have h2 : (cf i)[j]? = some ((cf i).getD j Go.undef) := by rw [List.getD_eq_getElem?_getD, List.getElem?_eq_getElem (by omega)]; rfl
                have hs := hspot (by omega)
                rw [h2] at h1
                have h3 : a.add (i * row.length + j) = ⟨a.block, a.off + (i * row.length + j), none⟩ := addr_add_plain hs _
                rw [h3] at h1
                exact Gh.all_rd h1 (k4 j _ c _ (List.getElem?_eq_getElem hj') hj h2).2.2
              · intro i j r c hi hj
                obtain ⟨hi2, rfl⟩ := hrow? i r hi
                obtain ⟨k1, k2, k3, k4⟩ := key3 i hi2
                have hj' : j < row.length := by have := (List.getElem?_eq_some_iff.1 hj).1; omega
                have h2 : (cf i)[j]? = some ((cf i).getD j Go.undef) := by rw [List.getD_eq_getElem?_getD, List.getElem?_eq_getElem (by omega)]; rfl
                exact (k4 j _ c _ (List.getElem?_eq_getElem hj') hj h2).2.1
        · cases h
      · cases h
    · rename_i fs ht
      split at h
      · rename_i l' hl'
        split at h
        · rename_i hc
          obtain rfl := sj h
          obtain ⟨xs, m, rfl, rfl, h1, h2, h3⟩ := DataW.trod_struct ht hx
          have := shFs_rel (enc := enc) (P := P) (w := w) (base := base) (held := held) (spare := spare) (m := m) (fun t l h cs x => trod_rel n t l h m cs x) fs.toList 0 l' cs hl' (by omega) fun f hf => by
            obtain ⟨i, hi⟩ := List.getElem?_of_mem hf
            have hi' : fs[i]? = some f := by simpa using hi
            have := h3 i f hi'
            have hlt : i < xs.length := by have := (Array.getElem?_eq_some_iff.1 hi').1; omega
            rw [List.getElem?_eq_getElem hlt] at this
            exact ⟨_, this⟩
          simpa using this
        · cases h
      · cases h
    · cases h
end
end
section
open Go.RowKit Go.ChangeShapes Go.WideShapes
def isStruct (P : Program) (t : TypeId) : Bool := match P.underlying t with | some (.struct _) => true | _ => false
def asOf (P : Program) (t : TypeId) : Option (Bool × List CS) := (shOf P 8 t).map fun l => (isStruct P t, l)
def ConfA : Bool × List CS → DV → Prop
  | (false, l), d => ∃ c, l = [c] ∧ Conf c d
  | (true, l), d => ∃ ds, d = .agg ds ∧ ds.length = l.length ∧ ∀ (i : Nat) c x, l[i]? = some c → ds[i]? = some x → Conf c x
def asAll (P : Program) : List TypeId → Option (List (Bool × List CS))
  | [] => some []
  | t :: ts => match asOf P t, asAll P ts with
    | some a, some l => some (a :: l)
    | _, _ => none
def ConfL : List (Bool × List CS) → List DV → Prop
  | [], [] => True
  | a :: l, d :: ds => ConfA a d ∧ ConfL l ds
  | _, _ => False
theorem ConfL.nil {ds : List DV} (h : ConfL [] ds) : ds = [] := by
  cases ds with
  | nil => rfl
  | cons => exact h.elim
theorem ConfL.cons {a : Bool × List CS} {l : List (Bool × List CS)} {ds : List DV} (h : ConfL (a :: l) ds) : ∃ d r, ds = d :: r ∧ ConfA a d ∧ ConfL l r := by
  cases ds with
  | nil => exact h.elim
  | cons d r => exact ⟨d, r, rfl, h.1, h.2⟩
section
variable {H : Type} {enc : TypeId × Value → H} {P : Program} {w : World}
theorem okWide_cells {r : Reach} {b0 : Nat} {t : TypeId} {v : Value} {l : List CS} (h : Value.okWide P w r b0 t v) (hs : shOf P 8 t = some l) (hn : isStruct P t = false) : v.cells.toList = [v] := by
  unfold isStruct at hn
  have key : ∀ cs, v ≠ .agg cs := by
    intro cs e
    subst e
    rw [shOf] at hs
    unfold Value.okWide Cell.okWide Cell.ok at h
    split at hs <;> rename_i ht <;> first | (rw [ht] at h; exact h.elim) | (rw [ht] at hn; cases hn) | cases hs
  cases v <;> first | rfl | exact absurd rfl (key _)
theorem okWide_agg {r : Reach} {b0 : Nat} {t : TypeId} {v : Value} (h : Value.okWide P w r b0 t v) (hn : isStruct P t = true) : ∃ cs, v = .agg cs := by
  unfold isStruct at hn
  split at hn
  · rename_i ht
    unfold Value.okWide at h
    rw [ht] at h
    obtain ⟨cs, h, _⟩ := h
    exact ⟨cs, h⟩
  · cases hn
theorem arg_rel {r : Reach} {b0 base : Nat} {spare : Nat → Bool} {held : Bool} {t : TypeId} {v : Value} {d : DataW H} {ps : List MemPlace} {a : Bool × List CS} (ha : asOf P t = some a) (hv : Value.okWide P w r b0 t v)
    (hd : DataW.Trod enc P w base spare held t v d ps) : ∃ x, ConfA a x ∧ Rel (Gh.all w) x v := by
  unfold asOf at ha
  cases hl : shOf P 8 t with
  | none => rw [hl] at ha; cases ha
  | some l =>
    rw [hl] at ha
    obtain rfl := sj ha
    obtain ⟨fuel, hf⟩ := hd
    obtain ⟨h1, ds, h2, h3⟩ := trod_rel 8 t l hl fuel _ _ hf
    cases hn : isStruct P t with
    | false =>
      rw [okWide_cells hv hl hn] at h1 h3
      match l, h1 with
      | [c], _ =>
        match ds, h2 with
        | [x], _ =>
          obtain ⟨k1, k2, _⟩ := h3 0 c x v rfl rfl rfl
          exact ⟨x, ⟨c, rfl, k1⟩, k2⟩
    | true =>
      obtain ⟨cs, rfl⟩ := okWide_agg hv hn
      simp only [Value.cells] at h1 h3
      refine ⟨.agg ds, ⟨ds, rfl, h2, fun i c x hc hx => ?_⟩, .agg ds cs (by simpa using h1.trans h2.symm) fun i c hc => ?_⟩
      · have hi : i < cs.toList.length := by have := (List.getElem?_eq_some_iff.1 hc).1; omega
        exact (h3 i c x _ hc hx (List.getElem?_eq_getElem hi)).1
      · have hi : i < ds.length := (List.getElem?_eq_some_iff.1 hc).1
        have hi2 : i < cs.toList.length := by omega
        have hi3 : i < cs.size := by simpa using hi2
        have := (h3 i _ c _ (List.getElem?_eq_getElem (by omega)) hc (List.getElem?_eq_getElem hi2)).2.1
        simpa [Array.getD, hi3] using this
theorem args_rel {base b0 : Nat} {spare : Nat → Bool} {held : Bool} {r : Reach} : ∀ {ts : List TypeId} {vs : List Value} {ds : List (DataW H)} {ps : List MemPlace} {l : List (Bool × List CS)}, asAll P ts = some l →
    (∀ (j : Nat) t v, ts[j]? = some t → vs[j]? = some v → Value.okWide P w r b0 t v) → DataW.TrodAll enc P w base spare held ts vs ds ps →
    ∃ dv : List DV, ConfL l dv ∧ dv.length = vs.length ∧ ∀ (i : Nat) d, dv[i]? = some d → Rel (Gh.all w) d (vs.getD i Go.undef)
  | [], [], [], ps, l, hl, hv, h => by
    obtain rfl := sj hl
    exact ⟨[], trivial, rfl, by simp⟩
  | t :: ts, v :: vs, d :: ds, ps, l, hl, hv, ⟨p, q, h1, h2, h3⟩ => by
    simp only [asAll] at hl
    split at hl
    · rename_i a l' ha hl'
      obtain rfl := sj hl
      obtain ⟨x, hx, hr⟩ := arg_rel ha (hv 0 t v rfl rfl) h1
      obtain ⟨dv, k1, k2, k3⟩ := args_rel hl' (fun j t v ht hv' => hv (j + 1) t v (by simpa using ht) (by simpa using hv')) h2
      refine ⟨x :: dv, ⟨hx, k1⟩, by simp [k2], fun i d hd => ?_⟩
      rcases i with _ | i
      · simp at hd; subst hd; simpa using hr
      · have := k3 i d (by simpa using hd)
        simpa using this
    · cases hl
theorem cells?_again {w' : World} {a : Addr} {n : Nat} {cs : List Value} (hb : ∀ b : Nat, b < w.heap.size → w'.heap[b]? = w.heap[b]?) (h : w.cells? 0 a n = some cs) : w'.cells? 0 a n = some cs := by
  rw [← h]
  have hl := (World.cells?_some h).2
  unfold World.cells?
  simp only [Nat.zero_le, if_true]
  have : ∀ i, i < n → w'.cell? (a.add i) = w.cell? (a.add i) := fun i hi => by
    have h1 := hl.2 i hi
    rw [List.getElem?_eq_getElem (by omega)] at h1
    have h2 : (a.add i).block < w.heap.size := by
      unfold World.cell? at h1
      split at h1
      · rename_i h2
        exact (Array.getElem?_eq_some_iff.1 h2).1
      · cases h1
    unfold World.cell?
    rw [hb _ h2]
  have key : ∀ l : List Nat, (∀ i ∈ l, i < n) → l.mapM (fun i => w'.cell? (a.add i)) = l.mapM (fun i => w.cell? (a.add i)) := by
    intro l
    induction l with
    | nil => intro _; rfl
    | cons x l ih => intro hx; rw [List.mapM_cons, List.mapM_cons, this x (hx x (by simp)), ih fun i hi => hx i (by simp [hi])]
  exact key _ fun i hi => by simpa using hi
theorem mapM_eq_of {α β : Type} {f g : α → Option β} : ∀ {l : List α} {r : List β}, l.mapM f = some r → (∀ (i : Nat) x y, l[i]? = some x → r[i]? = some y → f x = some y → g x = some y) → l.mapM g = some r
  | [], r, h, _ => h
  | x :: l, r, h, hg => by
    rw [List.mapM_cons] at h ⊢
    cases hx : f x with
    | none => rw [hx] at h; cases h
    | some y =>
      cases hl : l.mapM f with
      | none => rw [hx, hl] at h; cases h
      | some ys =>
        rw [hx, hl] at h
        obtain rfl := sj h
        rw [hg 0 x y rfl rfl hx, mapM_eq_of hl fun i x y h1 h2 => hg (i + 1) x y (by simpa using h1) (by simpa using h2)]
        rfl
theorem trod_again {w' : World} {sp : Nat → Bool} (hb : ∀ b : Nat, b < w.heap.size → w'.heap[b]? = w.heap[b]?) : ∀ (n : Nat) (t : TypeId) (l : List CS), shOf P n t = some l → ∀ (fuel : Nat) (cs : List Value) (x : DataW H × List MemPlace),
    DataW.trod enc P w 0 (fun _ => true) true fuel t cs = some x → (∀ p ∈ x.2, sp p.block = true) → DataW.trod enc P w' 0 sp true fuel t cs = some x
  | 0, t, l, h, _, _, _, _ => by cases h
  | n + 1, t, l, h, fuel, cs, x, hx => by
    intro hsp
    cases fuel with
    | zero => simp [DataW.trod] at hx
    | succ m =>
      simp only [shOf] at h
      split at h
      · rename_i ht
        obtain ⟨b, rfl, rfl⟩ := DataW.trod_bool ht hx
        simp [DataW.trod, ht]
      · rename_i k ht
        obtain ⟨b, rfl, rfl, hw⟩ := DataW.trod_int ht hx
        simp [DataW.trod, ht, hw]
      · rename_i ht
        obtain ⟨b, rfl, rfl, hw⟩ := DataW.trod_string ht hx
        simp [DataW.trod, ht, hw]
      · rename_i e ht
        split at h
        · rename_i row hrow
          split at h
          · rename_i hc
            unfold DataW.trod at hx ⊢
            rw [ht] at hx ⊢
            split at hx
            all_goals (rename_i hA; first | cases hA | skip)
            all_goals first
              | exact hx
              | cases hx
              | skip
            rename_i a len cap
            simp only [if_true] at hx
            split at hx
            · rename_i hcond
              rw [if_pos hcond]
              cases he : (List.range len).mapM fun i => (w.cells? 0 (a.add (i * P.cellsOf e)) (P.cellsOf e)).bind (DataW.trod enc P w 0 (fun _ => true) true m e) with
              | none => rw [he] at hx; cases hx
              | some elems =>
                rw [he] at hx
                simp only [Option.bind_some] at hx
                cases hr : (List.range (cap - len)).mapM fun j => (w.cells? 0 (a.add ((len + j) * P.cellsOf e)) (P.cellsOf e)).bind (DataW.trod enc P w 0 (fun _ => true) true m e) with
                | none => rw [hr] at hx; cases hx
                | some rest =>
                  rw [hr] at hx
                  obtain rfl := sj hx
                  have hel : elems.length = len := by simpa using mapM_some_length he
                  have hrl : rest.length = cap - len := by simpa using mapM_some_length hr
                  have step : ∀ (k : Nat) (y : DataW H × List MemPlace), (∀ p ∈ y.2, sp p.block = true) → (w.cells? 0 (a.add (k * P.cellsOf e)) (P.cellsOf e)).bind (DataW.trod enc P w 0 (fun _ => true) true m e) = some y →
                      (w'.cells? 0 (a.add (k * P.cellsOf e)) (P.cellsOf e)).bind (DataW.trod enc P w' 0 sp true m e) = some y := by
                    intro k y hy h1
                    rw [Option.bind_eq_some_iff] at h1
                    obtain ⟨cs', h2, h3⟩ := h1
                    rw [cells?_again hb h2, Option.bind_some]
                    exact trod_again hb n e row hrow m cs' y h3 hy
                  have hmem : ∀ y ∈ elems ++ rest, ∀ p ∈ y.2, sp p.block = true := fun y hy p hp => hsp p (by
                    simp only [List.mem_append]
                    exact Or.inr (List.mem_flatMap.2 ⟨y, hy, hp⟩))
                  rw [mapM_eq_of he fun i k y h1 h2 h3 => step k y (hmem y (List.mem_append_left _ (List.mem_of_getElem? h2))) h3, Option.bind_some]
                  have hr2 := mapM_eq_of hr fun i k y h1 h2 h3 => step (len + k) y (hmem y (List.mem_append_right _ (List.mem_of_getElem? h2))) h3
                  by_cases hz : cap - len = 0
                  · have hrn : rest = [] := List.eq_nil_of_length_eq_zero (by omega)
                    subst hrn
                    rw [hz]
                    split <;> rfl
                  · have hsa : sp a.block = true := by
                      have : MemPlace.cell a.block (a.off + 0) ∈ MemPlace.row a ((elems.length + rest.length) * P.cellsOf e) := by
                        unfold MemPlace.row
                        refine List.mem_map.2 ⟨0, ?_, rfl⟩
                        rw [List.mem_range]
                        exact Nat.mul_pos (by omega) (by omega)
                      exact hsp (.cell a.block (a.off + 0)) (by simp only [List.mem_append]; exact Or.inl this)
                    rw [if_pos hsa, hr2]
                    rfl
            · cases hx
          · cases h
        · cases h
      · rename_i fs ht
        split at h
        · rename_i l' hl'
          split at h
          · rename_i hc
            unfold DataW.trod at hx ⊢
            rw [ht] at hx ⊢
            split at hx
            all_goals (rename_i hA; first | cases hA | skip)
            all_goals first
              | cases hx
              | (exfalso; simp_all; done)
              | skip
            rename_i cs _ _
            split at hx
            · rename_i hcl
              rw [if_pos hcl]
              cases he : fs.toList.mapM fun f => DataW.trod enc P w 0 (fun _ => true) true m f.type ((cs.drop f.offset).take (P.cellsOf f.type)) with
              | none => rw [he] at hx; cases hx
              | some xs =>
                rw [he] at hx
                obtain rfl := sj hx
                have hfs : ∀ (L : List Field) (off : Nat) (r : List CS), shFs P (shOf P n) L off = some r → ∀ f ∈ L, ∃ lf, shOf P n f.type = some lf := by
                  intro L
                  induction L with
                  | nil => intro _ _ _ f hf; cases hf
                  | cons g L ih =>
                    intro off r h f hf
                    simp only [shFs] at h
                    split at h
                    · rename_i lf hlf
                      split at h
                      · cases hr : shFs P (shOf P n) L (off + lf.length) with
                        | none => rw [hr] at h; cases h
                        | some lr =>
                          rcases List.mem_cons.1 hf with rfl | hf
                          · exact ⟨_, hlf⟩
                          · exact ih _ _ hr f hf
                      · cases h
                    · cases h
                rw [mapM_eq_of he fun i f y h1 h2 h3 => by
                  obtain ⟨lf, hlf⟩ := hfs _ _ _ hl' f (List.mem_of_getElem? h1)
                  exact trod_again hb n f.type lf hlf m _ y h3 fun p hp => hsp p (List.mem_flatMap.2 ⟨y, List.mem_of_getElem? h2, hp⟩)]
                rfl
            · cases hx
          · cases h
        · cases h
      · cases h
theorem trodAll_again {w' : World} {sp : Nat → Bool} (hb : ∀ b : Nat, b < w.heap.size → w'.heap[b]? = w.heap[b]?) : ∀ {ts : List TypeId} {vs : List Value} {ds : List (DataW H)} {ps : List MemPlace} {l : List (Bool × List CS)}, asAll P ts = some l →
    DataW.TrodAll enc P w 0 (fun _ => true) true ts vs ds ps → (∀ p ∈ ps, sp p.block = true) → DataW.TrodAll enc P w' 0 sp true ts vs ds ps
  | [], [], [], ps, l, hl, h, _ => h
  | t :: ts, v :: vs, d :: ds, ps, l, hl, ⟨p, q, ⟨f, h1⟩, h2, h3⟩, hs => by
    subst h3
    simp only [asAll] at hl
    split at hl
    · rename_i a l' ha hl'
      unfold asOf at ha
      cases hl8 : shOf P 8 t with
      | none => rw [hl8] at ha; cases ha
      | some lt =>
        exact ⟨p, q, ⟨f, trod_again hb 8 t lt hl8 f _ _ h1 fun x hx => hs x (List.mem_append_left _ hx)⟩, trodAll_again hb hl' h2 fun x hx => hs x (List.mem_append_right _ hx), rfl⟩
    · cases hl
end
end
section
open Go.RowKit Go.ChangeShapes Go.WideShapes
def flat {H : Type} : Nat → DataW H → List Value
  | n + 1, .lit (.int k z) => [.int k z]
  | n + 1, .lit (.bool b) => [.bool b]
  | n + 1, .agg l => l.flatMap (flat n)
  | _, _ => []
def flatFs (P : Program) (ok : TypeId → Bool) : List Field → Nat → Option Nat
  | [], off => some off
  | f :: fs, off => if ok f.type = true ∧ f.offset = off then flatFs P ok fs (off + P.cellsOf f.type) else none
def flatT (P : Program) : Nat → TypeId → Bool
  | 0, _ => false
  | n + 1, t => match P.underlying t with
    | some (.int _) => true
    | some .bool => true
    | some (.array k e) => flatT P n e && decide (P.cellsOf t = k * P.cellsOf e)
    | some (.struct fs) => flatFs P (flatT P n) fs.toList 0 == some (P.cellsOf t)
    | _ => false
section
variable {H : Type} {enc : TypeId × Value → H} {P : Program} {w : World} {base : Nat} {spare : Nat → Bool} {held : Bool}
theorem pieces {α : Type} (sz : Nat) : ∀ (k : Nat) (cs : List α), cs.length = k * sz → cs = (List.range k).flatMap fun i => (cs.drop (i * sz)).take sz
  | 0, cs, h => by
    have : cs = [] := List.eq_nil_of_length_eq_zero (by simpa using h)
    subst this; rfl
  | k + 1, cs, h => by
    rw [List.range_succ_eq_map, List.flatMap_cons, List.flatMap_map]
    have h1 := pieces sz k (cs.drop sz) (by rw [List.length_drop, h, Nat.succ_mul]; omega)
    simp only [List.drop_drop] at h1
    have h2 : ∀ i, sz + i * sz = (i + 1) * sz := fun i => by rw [Nat.succ_mul]; omega
    simp only [h2] at h1
    simp only [Nat.zero_mul, List.drop_zero]
    conv => lhs; rw [← List.take_append_drop sz cs, h1]
theorem flatMap_congr_idx {α β γ : Type} {f : α → List γ} {g : β → List γ} : ∀ {l : List α} {m : List β}, l.length = m.length → (∀ (i : Nat) a b, l[i]? = some a → m[i]? = some b → f a = g b) → l.flatMap f = m.flatMap g
  | [], [], _, _ => rfl
  | a :: l, b :: m, h, hg => by
    rw [List.flatMap_cons, List.flatMap_cons, hg 0 a b rfl rfl, flatMap_congr_idx (by simpa using h) fun i a b h1 h2 => hg (i + 1) a b (by simpa using h1) (by simpa using h2)]
theorem flatFs_eq {ok : TypeId → Bool} {m : Nat} {cs : List Value} : ∀ (fs : List Field) (off e : Nat), flatFs P ok fs off = some e → e = cs.length → off ≤ cs.length ∧ cs.drop off = fs.flatMap fun f => (cs.drop f.offset).take (P.cellsOf f.type)
  | [], off, e, h, he => by
    obtain rfl := sj h
    refine ⟨by omega, ?_⟩
    rw [he]; simp
  | f :: fs, off, e, h, he => by
    simp only [flatFs] at h
    split at h
    · rename_i hc
      obtain ⟨h1, h2⟩ := flatFs_eq (m := m) (cs := cs) fs _ _ h he
      refine ⟨by omega, ?_⟩
      rw [List.flatMap_cons, ← h2, hc.2, ← List.drop_drop, List.take_append_drop]
    · cases h
theorem trod_flat : ∀ (n : Nat) (t : TypeId), flatT P n t = true → ∀ (fuel : Nat) (cs : List Value) (x : DataW H × List MemPlace), DataW.trod enc P w base spare held fuel t cs = some x → cs = flat n x.1
  | 0, t, h, _, _, _, _ => by cases h
  | n + 1, t, h, fuel, cs, x, hx => by
    simp only [flatT] at h
    split at h
    · rename_i k ht
      obtain ⟨z, rfl, rfl, _⟩ := DataW.trod_int ht hx
      rfl
    · rename_i ht
      obtain ⟨z, rfl, rfl⟩ := DataW.trod_bool ht hx
      rfl
    · rename_i k e ht
      simp only [Bool.and_eq_true, decide_eq_true_eq] at h
      obtain ⟨xs, m, rfl, rfl, h1, h2, h3⟩ := DataW.trod_array ht hx
      simp only [flat, List.flatMap_map]
      conv => lhs; rw [pieces (P.cellsOf e) k cs (by rw [h1, h.2])]
      refine flatMap_congr_idx (by simp [h2]) fun i a b ha hb => ?_
      have hi : i < k := by have := (List.getElem?_eq_some_iff.1 ha).1; simpa using this
      rw [List.getElem?_range hi] at ha
      obtain rfl := sj ha
      exact trod_flat n e h.1 m _ _ ((h3 i hi).trans hb)
    · rename_i fs ht
      obtain ⟨xs, m, rfl, rfl, h1, h2, h3⟩ := DataW.trod_struct ht hx
      simp only [flat, List.flatMap_map]
      have h4 := (flatFs_eq (m := 0) (cs := cs) fs.toList 0 (P.cellsOf t) (by simpa using h) h1.symm).2
      rw [List.drop_zero] at h4
      conv => lhs; rw [h4]
      have hok : ∀ (L : List Field) (off e : Nat), flatFs P (flatT P n) L off = some e → ∀ f ∈ L, flatT P n f.type = true := by
        intro L
        induction L with
        | nil => intro _ _ _ f hf; cases hf
        | cons g L ih =>
          intro off e h f hf
          simp only [flatFs] at h
          split at h
          · rename_i hc
            rcases List.mem_cons.1 hf with rfl | hf
            · exact hc.1
            · exact ih _ _ h f hf
          · cases h
      refine flatMap_congr_idx (by simp [h2]) fun i a b ha hb => ?_
      have ha' : fs[i]? = some a := by simpa using ha
      exact trod_flat n a.type (hok _ _ _ (by simpa using h) a (List.mem_of_getElem? ha)) m _ _ ((h3 i a ha').trans hb)
    · cases h
theorem laid_cells {laid : List (String × DataW Unit)} (h : laidMetH P laid w) (hn : laid.all (fun x => x.2.handleName?.isNone) = true) {name : String} {d : DataW Unit} (hm : (name, d) ∈ laid) {g : Nat} {t : TypeId} {n : Nat}
    (hg : P.globalNamed name = some g) (hty : (P.globals[g]?).map (·.type) = some t) (hf : flatT P n t = true) : ∀ i, w.cell? ⟨g, i, none⟩ = (flat n d)[i]? := by
  have h0 : laidMet P laid w := by
    unfold laidMetH at h
    have : laid.filter (fun x => x.2.handleName?.isSome) = [] := by
      rw [List.filter_eq_nil_iff]
      intro x hx
      have := List.all_eq_true.1 hn x hx
      simp at this
      simp [this]
    rw [this] at h
    exact h
  obtain ⟨ps, h1, h2⟩ := h0
  clear h hn h2
  induction laid generalizing ps with
  | nil => cases hm
  | cons x r ih =>
    obtain ⟨n0, d0⟩ := x
    obtain ⟨g', t', cs, fuel, p, q, hg', hty', hvar, hd, hr, _⟩ := h1
    rcases List.mem_cons.1 hm with e | hm
    · obtain ⟨rfl, rfl⟩ := Prod.mk.injEq .. ▸ e
      obtain rfl := sj (hg.symm.trans hg')
      obtain rfl := sj (hty.symm.trans hty')
      intro i
      rw [World.var?_cell hg hvar i, ← trod_flat n t hf fuel _ _ hd]
      simp
    · exact ih hm q hr
theorem rp_of_cells {g : Nat} {row : List DV} {vs : List Value} (h : ∀ i, w.cell? ⟨g, i, none⟩ = vs[i]?) (hl : row.length = vs.length) (hr : ∀ (i : Nat) d v, row[i]? = some d → vs[i]? = some v → Rel (Gh.all w) d v ∧ v.oneCell' = true) :
    Rel (Gh.all w) (.rp row 0) (.pointer (some ⟨g, 0, none⟩)) := by
  have := Rel.rp (G := Gh.all w) row 0 g 0 (fun m => vs.getD m Go.undef) (fun m c hm => ?_) (fun m c hm => ?_)
  · exact this
  · have hi : m < vs.length := by have := (List.getElem?_eq_some_iff.1 hm).1; omega
    have h1 : vs[m]? = some (vs.getD m Go.undef) := by rw [List.getD_eq_getElem?_getD, List.getElem?_eq_getElem hi]; rfl
    rw [Nat.zero_add]
    exact Gh.all_rd ((h m).trans h1) (hr m c _ hm h1).2
  · have hi : m < vs.length := by have := (List.getElem?_eq_some_iff.1 hm).1; omega
    have h1 : vs[m]? = some (vs.getD m Go.undef) := by rw [List.getD_eq_getElem?_getD, List.getElem?_eq_getElem hi]; rfl
    exact (hr m c _ hm h1).1
theorem trodAll_len : ∀ {ts : List TypeId} {vs : List Value} {ds : List (DataW H)} {ps : List MemPlace}, DataW.TrodAll enc P w base spare held ts vs ds ps → ds.length = ts.length
  | [], [], [], _, _ => rfl
  | _ :: _, _ :: _, _ :: _, _, ⟨_, _, _, h, _⟩ => by simp [trodAll_len h]
end
end
section
def addId (a : Nat) : List Nat → List Nat
  | [] => [a]
  | b :: l => if a = b then b :: l else b :: addId a l
def addIds : List Nat → List Nat → List Nat
  | [], acc => acc
  | a :: l, acc => addIds l (addId a acc)
def idsE : List (Nat × DV) → List Nat → List Nat
  | [], acc => acc
  | (_, d) :: l, acc => idsE l (addIds (idsT d) acc)
def canE (m : Nat) (ids : List Nat) : List (Nat × DV) → List (Nat × DV)
  | [] => []
  | (t, d) :: l => (t, canT m ids d) :: canE m ids l
def boxIds : Option (Option Ob) → List Nat → List Nat
  | some (some (.box cs)), acc => addIds (cs.flatMap ids0) acc
  | _, acc => acc
def closeB (T : Objs) : List Nat → List Nat → List Nat
  | [], acc => acc
  | i :: l, acc => closeB T l (boxIds T[i]? acc)
def canOb (m : Nat) (ids : List Nat) : Ob → Ob
  | .box cs => .box (cs.map (can0 m ids))
  | ob => ob
def inL (a : Nat) : List Nat → Prop
  | [] => False
  | b :: l => a = b ∨ inL a l
def allIn (all : List Nat) : List Nat → Prop
  | [] => True
  | a :: l => inL a all ∧ allIn all l
def obIds : Ob → List Nat
  | .box cs => cs.flatMap ids0
  | _ => []
def canGo (T : Objs) (all : List Nat) : List Nat → (Objs → Prop) → Prop
  | [], k => k []
  | i :: l, k => bindO T[i]? fun x => bindO x fun ob => allIn all (obIds ob) ∧ canGo T all l fun os => k (some (canOb T.length all ob) :: os)
def canI (T : Objs) (ids : List Nat) (e : List (Nat × DV)) (K : Nat → St → Prop) : Prop := canGo T ids ids fun os => K T.length ⟨canE T.length ids e, List.replicate T.length none ++ os⟩
def canS (st : St) (K : Nat → St → Prop) : Prop := canI st.objs (closeB st.objs (idsE st.env []) (idsE st.env [])) st.env K
section
variable {G G' : Gh} {m : Nat} {ids : List Nat} (hle : G.le G') (hpl : ∀ o p, o ∈ ids → G.pl o = some p → G'.pl (m + pos o ids) = some p)
include hle hpl
end
theorem LoopWp.own {E : Prg} {n : Nat} {b : RC} {Q : Exit → St → Prop} {st : St} (t sz : Nat) {s : Nat} {k : SK} (h : st.get t = .sl s [] k) (hk : k = .nil ∨ k = .zero)
    (h2 : LoopWp E n b Q ⟨St.rep t (.own st.objs.length 0 0) st.env, st.objs ++ [some (.arr sz [])]⟩) : LoopWp E n b Q st := by
  intro c ann hc C a w hn ⟨G, hr⟩
  have hr2 := hr.newEmpty sz
  refine h2 c ann hc C a w hn ⟨G.more st.objs.length ⟨0, 0, sz, 0⟩, ⟨fun u => ?_, hr2.num, hr2.defs, hr2.heap, hr2.frm, hr2.glob⟩⟩
  by_cases e : u = t
  · subst e
    have h3 : Rel (G.more st.objs.length ⟨0, 0, sz, 0⟩) (st.get u) _ := hr2.env u
    rw [h] at h3
    have h4 : St.look u (St.rep u (.own st.objs.length 0 0) st.env) = .own st.objs.length 0 0 ∨ St.look u (St.rep u (.own st.objs.length 0 0) st.env) = .undef := by
      clear h h2 hr hr2 h3
      induction st.env with
      | nil => exact .inr rfl
      | cons x l ih =>
        obtain ⟨k, d⟩ := x
        simp only [St.rep]
        split
        · rename_i e; simp [St.look]
        · rename_i e; simp only [St.look]; rw [if_neg e]; exact ih
    show Rel _ (St.look u (St.rep u (.own st.objs.length 0 0) st.env)) _
    rcases h4 with h4 | h4
    · rw [h4]
      generalize a.tmps.getD u Go.undef = v at h3
      cases h3 with
      | sl _ _ _ p len cap b' o vals h5 h6 h7 h8 _ _ _ =>
        have hl : len = 0 := by simpa using h5
        subst hl
        have hc0 : cap = 0 := by
          rcases hk with rfl | rfl
          · exact h6.2
          · exact h6
        subst hc0
        exact .own _ 0 0 ⟨0, 0, sz, 0⟩ p 0 (by simp [Gh.more]) rfl (Nat.le_refl _) (fun h => by omega)
    · rw [h4]; exact .undef _
  · have h3 : St.look u (St.rep t (.own st.objs.length 0 0) st.env) = St.look u st.env := by
      clear h h2 hr hr2
      induction st.env with
      | nil => rfl
      | cons x l ih =>
        obtain ⟨k, d⟩ := x
        simp only [St.rep]
        split
        · rename_i e2; subst e2; simp only [St.look]; rw [if_neg (fun h => e h.symm), if_neg (fun h => e h.symm)]
        · simp only [St.look]; rw [ih]
    show Rel _ (St.look u (St.rep t (.own st.objs.length 0 0) st.env)) _
    rw [h3]
    exact hr2.env u
theorem objsWk_pre (n : Nat) (a b : Objs) : objsWk (List.replicate n none ++ a) (List.replicate n none ++ b) = objsWk a b := by
  induction n with
  | zero => rfl
  | succ n ih => simp only [List.replicate_succ, List.cons_append, objsWk_none, ih]
theorem addId_nil (a : Nat) : addId a [] = [a] := nrfl _
theorem addId_cons (a b : Nat) (l : List Nat) : addId a (b :: l) = if a = b then b :: l else b :: addId a l := nrfl _
theorem addIds_nil (acc : List Nat) : addIds [] acc = acc := nrfl _
theorem addIds_cons (a : Nat) (l acc : List Nat) : addIds (a :: l) acc = addIds l (addId a acc) := nrfl _
theorem idsE_nil (acc : List Nat) : idsE [] acc = acc := nrfl _
theorem idsE_cons (t : Nat) (d : DV) (l : List (Nat × DV)) (acc : List Nat) : idsE ((t, d) :: l) acc = idsE l (addIds (idsT d) acc) := nrfl _
theorem canE_nil (m : Nat) (ids : List Nat) : canE m ids [] = [] := nrfl _
theorem canE_cons (m : Nat) (ids : List Nat) (t : Nat) (d : DV) (l : List (Nat × DV)) : canE m ids ((t, d) :: l) = (t, canT m ids d) :: canE m ids l := nrfl _
theorem canGo_nil (T : Objs) (all : List Nat) (k : Objs → Prop) : canGo T all [] k = k [] := nrfl _
theorem closeB_nil (T : Objs) (acc : List Nat) : closeB T [] acc = acc := nrfl _
theorem closeB_cons (T : Objs) (i : Nat) (l acc : List Nat) : closeB T (i :: l) acc = closeB T l (boxIds T[i]? acc) := nrfl _
theorem boxIds_box (cs : List DV) (acc : List Nat) : boxIds (some (some (.box cs))) acc = addIds (cs.flatMap ids0) acc := nrfl _
theorem boxIds_arr (sz : Nat) (rows : List (List DV)) (acc : List Nat) : boxIds (some (some (.arr sz rows))) acc = acc := nrfl _
theorem boxIds_none (acc : List Nat) : boxIds (some none) acc = acc := nrfl _
theorem canOb_box (m : Nat) (ids : List Nat) (cs : List DV) : canOb m ids (.box cs) = .box (cs.map (can0 m ids)) := nrfl _
theorem canOb_arr (m : Nat) (ids : List Nat) (sz : Nat) (rows : List (List DV)) : canOb m ids (.arr sz rows) = .arr sz rows := nrfl _
theorem canGo_cons (T : Objs) (all : List Nat) (i : Nat) (l : List Nat) (k : Objs → Prop) : canGo T all (i :: l) k = (bindO T[i]? fun x => bindO x fun ob => allIn all (obIds ob) ∧ canGo T all l fun os => k (some (canOb T.length all ob) :: os)) := nrfl _
theorem inL_nil (a : Nat) : inL a [] = False := nrfl _
theorem inL_cons (a b : Nat) (l : List Nat) : inL a (b :: l) = (a = b ∨ inL a l) := nrfl _
theorem allIn_nil (all : List Nat) : allIn all [] = True := nrfl _
theorem allIn_cons (all : List Nat) (a : Nat) (l : List Nat) : allIn all (a :: l) = (inL a all ∧ allIn all l) := nrfl _
theorem obIds_box (cs : List DV) : obIds (.box cs) = cs.flatMap ids0 := nrfl _
theorem obIds_arr (sz : Nat) (rows : List (List DV)) : obIds (.arr sz rows) = [] := nrfl _
theorem canI_eq (T : Objs) (ids : List Nat) (e : List (Nat × DV)) (K : Nat → St → Prop) : canI T ids e K = canGo T ids ids fun os => K T.length ⟨canE T.length ids e, List.replicate T.length none ++ os⟩ := nrfl _
theorem canS_mk (e : List (Nat × DV)) (T : Objs) (K : Nat → St → Prop) : canS ⟨e, T⟩ K = canI T (closeB T (idsE e []) (idsE e [])) e K := nrfl _
theorem idsT_rp (row : List DV) (j : Nat) : idsT (.rp row j) = [] := nrfl _
theorem idsT_undef : idsT .undef = [] := nrfl _
theorem canT_rp (m : Nat) (ids : List Nat) (row : List DV) (j : Nat) : canT m ids (.rp row j) = .rp row j := nrfl _
end
theorem frzA_int (o sz : Nat) (rows : List (List DV)) (k : IntKind) (n : Int) : DV.frzA o sz rows (.int k n) = .int k n := nrfl _
theorem frzA_bool (o sz : Nat) (rows : List (List DV)) (b : Bool) : DV.frzA o sz rows (.bool b) = .bool b := nrfl _
theorem frzA_str (o sz : Nat) (rows : List (List DV)) (s : List UInt8) : DV.frzA o sz rows (.str s) = .str s := nrfl _
theorem frzA_sl (o sz : Nat) (rows : List (List DV)) (s : Nat) (r : List (List DV)) (k : SK) : DV.frzA o sz rows (.sl s r k) = .sl s r k := nrfl _
theorem frzA_own (o sz : Nat) (rows : List (List DV)) (o' off n : Nat) : DV.frzA o sz rows (.own o' off n) = DV.frz0 o sz rows (.own o' off n) := nrfl _
theorem frzA_ptr (o sz : Nat) (rows : List (List DV)) (o' i j : Nat) : DV.frzA o sz rows (.ptr o' i j) = .ptr o' i j := nrfl _
theorem frzA_rp (o sz : Nat) (rows : List (List DV)) (r : List DV) (j : Nat) : DV.frzA o sz rows (.rp r j) = .rp r j := nrfl _
theorem frzA_undef (o sz : Nat) (rows : List (List DV)) : DV.frzA o sz rows .undef = .undef := nrfl _
theorem frzA_agg (o sz : Nat) (rows : List (List DV)) (cs : List DV) : DV.frzA o sz rows (.agg cs) = .agg (cs.map (DV.frz0 o sz rows)) := nrfl _
theorem vcA7 : type_of% (
  And.intro @closeB_nil <| And.intro @closeB_cons <| And.intro @boxIds_box <| And.intro @boxIds_arr <| And.intro @boxIds_none <| And.intro @canOb_box <| And.intro @canOb_arr <| And.intro @inL_nil <| And.intro @inL_cons <| And.intro @allIn_nil <| And.intro @allIn_cons <| And.intro @obIds_box <| And.intro @obIds_arr <| And.intro @app_o <| And.intro @app_h <| And.intro @frzA_int <| And.intro @frzA_bool <| And.intro @frzA_str <| And.intro @frzA_sl <| And.intro @frzA_own <| And.intro @frzA_ptr <| And.intro @frzA_rp <| And.intro @frzA_undef <| @frzA_agg) :=
  And.intro @closeB_nil <| And.intro @closeB_cons <| And.intro @boxIds_box <| And.intro @boxIds_arr <| And.intro @boxIds_none <| And.intro @canOb_box <| And.intro @canOb_arr <| And.intro @inL_nil <| And.intro @inL_cons <| And.intro @allIn_nil <| And.intro @allIn_cons <| And.intro @obIds_box <| And.intro @obIds_arr <| And.intro @app_o <| And.intro @app_h <| And.intro @frzA_int <| And.intro @frzA_bool <| And.intro @frzA_str <| And.intro @frzA_sl <| And.intro @frzA_own <| And.intro @frzA_ptr <| And.intro @frzA_rp <| And.intro @frzA_undef <| @frzA_agg
theorem vcA1 : type_of% (
  And.intro @resOf_1 <| And.intro @resOf_2 <| And.intro @resOf_3 <| And.intro @resT <| And.intro @resC <| And.intro @ev_t <| And.intro @ev_c <| And.intro @get_mk <| And.intro @put_some <| And.intro @put_none <| And.intro @know_mk <|
  And.intro @knows_t <| And.intro @knows_c <| And.intro @cut_mk <| And.intro @nx_f <| And.intro @nx_n <| And.intro @nx_t <| And.intro @cnd_dec <| And.intro @cnd_not <| And.intro @rvl_mov <| And.intro @rvl_pick <| And.intro @rvl_box <|
  And.intro @rvl_alloc <| And.intro @rvl_build <| And.intro @rvl_mkrow <| And.intro @rvl_load <| And.intro @rvl_store <| And.intro @rvl_nilck <| And.intro @rvl_bin <| And.intro @rvl_eqB <| And.intro @rvl_eqNil <| And.intro @rvl_un <|
  And.intro @rvl_i2i <| And.intro @rvl_b2s <| And.intro @rvl_s2b <| And.intro @rvl_s2s <| And.intro @rvl_lit <| And.intro @rvl_slice <| And.intro @natO_none <| And.intro @natO_some <| And.intro @rvl_sliceS <| And.intro @rvl_faddr <|
  And.intro @rvl_fld <| And.intro @rvl_iaddr <| And.intro @rvl_iaddrA <| And.intro @rvl_idxS <| And.intro @rvl_ext <| And.intro @rvl_len <| And.intro @rvl_lenS <| And.intro @rvl_append <| And.intro @rvl_mm <| And.intro @rvl_mkslice <|
  And.intro @rowsOf_sl <| And.intro @rowsOf_own <| And.intro @rowsOf_str <| And.intro @goSt_eq <| And.intro @freeze_mk <| And.intro @frzO_arr <| And.intro @initEnv_nil <| @initEnv_cons) :=
  And.intro @resOf_1 <| And.intro @resOf_2 <| And.intro @resOf_3 <| And.intro @resT <| And.intro @resC <| And.intro @ev_t <| And.intro @ev_c <| And.intro @get_mk <| And.intro @put_some <| And.intro @put_none <| And.intro @know_mk <|
  And.intro @knows_t <| And.intro @knows_c <| And.intro @cut_mk <| And.intro @nx_f <| And.intro @nx_n <| And.intro @nx_t <| And.intro @cnd_dec <| And.intro @cnd_not <| And.intro @rvl_mov <| And.intro @rvl_pick <| And.intro @rvl_box <|
  And.intro @rvl_alloc <| And.intro @rvl_build <| And.intro @rvl_mkrow <| And.intro @rvl_load <| And.intro @rvl_store <| And.intro @rvl_nilck <| And.intro @rvl_bin <| And.intro @rvl_eqB <| And.intro @rvl_eqNil <| And.intro @rvl_un <|
  And.intro @rvl_i2i <| And.intro @rvl_b2s <| And.intro @rvl_s2b <| And.intro @rvl_s2s <| And.intro @rvl_lit <| And.intro @rvl_slice <| And.intro @natO_none <| And.intro @natO_some <| And.intro @rvl_sliceS <| And.intro @rvl_faddr <|
  And.intro @rvl_fld <| And.intro @rvl_iaddr <| And.intro @rvl_iaddrA <| And.intro @rvl_idxS <| And.intro @rvl_ext <| And.intro @rvl_len <| And.intro @rvl_lenS <| And.intro @rvl_append <| And.intro @rvl_mm <| And.intro @rvl_mkslice <|
  And.intro @rowsOf_sl <| And.intro @rowsOf_own <| And.intro @rowsOf_str <| And.intro @goSt_eq <| And.intro @freeze_mk <| And.intro @frzO_arr <| And.intro @initEnv_nil <| @initEnv_cons
theorem vcA2 : type_of% (
  And.intro @look_nil <| And.intro @look_cons <| And.intro @ins_nil <| And.intro @ins_cons <| And.intro @rep_nil <| And.intro @rep_cons <| And.intro @memN_nil <| And.intro @memN_cons <| And.intro @cutE_nil <| And.intro @cutE_cons <|
  And.intro @buildV_nil <| And.intro @buildV_cons <| And.intro @mkrowV_nil <| And.intro @mkrowV_cons <| And.intro @binV_add <| And.intro @binV_sub <| And.intro @binV_mul <| And.intro @binV_quo <| And.intro @binV_rem <|
  And.intro @binV_and <| And.intro @binV_or <| And.intro @binV_xor <| And.intro @binV_andNot <| And.intro @binV_eql <| And.intro @binV_neq <| And.intro @binV_lss <| And.intro @binV_leq <| And.intro @binV_gtr <| And.intro @binV_geq <|
  And.intro @binV_shl <| And.intro @binV_shr <| And.intro @binS_add <| And.intro @binS_eql <| And.intro @binS_neq <| And.intro @binS_lss <| And.intro @binS_leq <| And.intro @binS_gtr <| And.intro @binS_geq <| And.intro @unOf_neg <|
  And.intro @unOf_xor <| And.intro @unOf_not <| And.intro @nilV_nil <| And.intro @nilV_nonnil <| And.intro @nilV_any <| And.intro @nilV_zero <| And.intro @cells_int <| And.intro @one_int <| And.intro @cells_bool <| And.intro @one_bool <|
  And.intro @cells_str <| And.intro @one_str <| And.intro @cells_sl <| And.intro @one_sl <| And.intro @cells_own <| And.intro @one_own <| And.intro @cells_ptr <| And.intro @one_ptr <| And.intro @cells_rp <| And.intro @one_rp <| @cells_agg) :=
  And.intro @look_nil <| And.intro @look_cons <| And.intro @ins_nil <| And.intro @ins_cons <| And.intro @rep_nil <| And.intro @rep_cons <| And.intro @memN_nil <| And.intro @memN_cons <| And.intro @cutE_nil <| And.intro @cutE_cons <|
  And.intro @buildV_nil <| And.intro @buildV_cons <| And.intro @mkrowV_nil <| And.intro @mkrowV_cons <| And.intro @binV_add <| And.intro @binV_sub <| And.intro @binV_mul <| And.intro @binV_quo <| And.intro @binV_rem <|
  And.intro @binV_and <| And.intro @binV_or <| And.intro @binV_xor <| And.intro @binV_andNot <| And.intro @binV_eql <| And.intro @binV_neq <| And.intro @binV_lss <| And.intro @binV_leq <| And.intro @binV_gtr <| And.intro @binV_geq <|
  And.intro @binV_shl <| And.intro @binV_shr <| And.intro @binS_add <| And.intro @binS_eql <| And.intro @binS_neq <| And.intro @binS_lss <| And.intro @binS_leq <| And.intro @binS_gtr <| And.intro @binS_geq <| And.intro @unOf_neg <|
  And.intro @unOf_xor <| And.intro @unOf_not <| And.intro @nilV_nil <| And.intro @nilV_nonnil <| And.intro @nilV_any <| And.intro @nilV_zero <| And.intro @cells_int <| And.intro @one_int <| And.intro @cells_bool <| And.intro @one_bool <|
  And.intro @cells_str <| And.intro @one_str <| And.intro @cells_sl <| And.intro @one_sl <| And.intro @cells_own <| And.intro @one_own <| And.intro @cells_ptr <| And.intro @one_ptr <| And.intro @cells_rp <| And.intro @one_rp <| @cells_agg
theorem vcA3 : type_of% (
  And.intro @rowAt_f <| And.intro @rowAt_t <| And.intro @rowSet_eq <| And.intro @rows_box <| And.intro @rows_arr <| And.intro @setRow_box <| And.intro @setRow_arr <| And.intro @freezes_nil <| And.intro @freezes_cons <|
  And.intro @ownIds_own <| And.intro @ownIds_sl <| And.intro @ownIds_agg <| And.intro @ownL_nil <| And.intro @ownL_int <| And.intro @frz0_int <| And.intro @frzT_int <| And.intro @ownL_bool <| And.intro @frz0_bool <| And.intro @frzT_bool <|
  And.intro @ownL_str <| And.intro @frz0_str <| And.intro @frzT_str <| And.intro @ownL_sl <| And.intro @frz0_sl <| And.intro @frzT_sl <| And.intro @ownL_ptr <| And.intro @frz0_ptr <| And.intro @frzT_ptr <| And.intro @ownL_rp <|
  And.intro @frz0_rp <| And.intro @frzT_rp <| And.intro @ownL_own <| And.intro @frz0_own <| And.intro @frzT_own <| And.intro @frzT_undef <| And.intro @frzT_agg <| And.intro @frzT_tup <| And.intro @obfrz_box <| And.intro @obfrz_arr <|
  And.intro @ids0_int <| And.intro @idsA_int <| And.intro @idsT_int <| And.intro @can0_int <| And.intro @canA_int <| And.intro @canT_int <| And.intro @cl0_int <| And.intro @clA_int <| And.intro @clT_int <| And.intro @ids0_bool <|
  And.intro @idsA_bool <| And.intro @idsT_bool <| And.intro @can0_bool <| And.intro @canA_bool <| And.intro @canT_bool <| And.intro @cl0_bool <| And.intro @clA_bool <| And.intro @clT_bool <| And.intro @ids0_str <| And.intro @idsA_str <|
  @idsT_str) :=
  And.intro @rowAt_f <| And.intro @rowAt_t <| And.intro @rowSet_eq <| And.intro @rows_box <| And.intro @rows_arr <| And.intro @setRow_box <| And.intro @setRow_arr <| And.intro @freezes_nil <| And.intro @freezes_cons <|
  And.intro @ownIds_own <| And.intro @ownIds_sl <| And.intro @ownIds_agg <| And.intro @ownL_nil <| And.intro @ownL_int <| And.intro @frz0_int <| And.intro @frzT_int <| And.intro @ownL_bool <| And.intro @frz0_bool <| And.intro @frzT_bool <|
  And.intro @ownL_str <| And.intro @frz0_str <| And.intro @frzT_str <| And.intro @ownL_sl <| And.intro @frz0_sl <| And.intro @frzT_sl <| And.intro @ownL_ptr <| And.intro @frz0_ptr <| And.intro @frzT_ptr <| And.intro @ownL_rp <|
  And.intro @frz0_rp <| And.intro @frzT_rp <| And.intro @ownL_own <| And.intro @frz0_own <| And.intro @frzT_own <| And.intro @frzT_undef <| And.intro @frzT_agg <| And.intro @frzT_tup <| And.intro @obfrz_box <| And.intro @obfrz_arr <|
  And.intro @ids0_int <| And.intro @idsA_int <| And.intro @idsT_int <| And.intro @can0_int <| And.intro @canA_int <| And.intro @canT_int <| And.intro @cl0_int <| And.intro @clA_int <| And.intro @clT_int <| And.intro @ids0_bool <|
  And.intro @idsA_bool <| And.intro @idsT_bool <| And.intro @can0_bool <| And.intro @canA_bool <| And.intro @canT_bool <| And.intro @cl0_bool <| And.intro @clA_bool <| And.intro @clT_bool <| And.intro @ids0_str <| And.intro @idsA_str <|
  @idsT_str
theorem vcA4 : type_of% (
  And.intro @can0_str <| And.intro @canA_str <| And.intro @canT_str <| And.intro @cl0_str <| And.intro @clA_str <| And.intro @clT_str <| And.intro @ids0_sl <| And.intro @idsA_sl <| And.intro @idsT_sl <| And.intro @can0_sl <|
  And.intro @canA_sl <| And.intro @canT_sl <| And.intro @cl0_sl <| And.intro @clA_sl <| And.intro @clT_sl <| And.intro @ids0_own <| And.intro @idsA_own <| And.intro @idsT_own <| And.intro @can0_own <| And.intro @canA_own <|
  And.intro @canT_own <| And.intro @cl0_own <| And.intro @clA_own <| And.intro @clT_own <| And.intro @ids0_ptr <| And.intro @idsA_ptr <| And.intro @idsT_ptr <| And.intro @can0_ptr <| And.intro @canA_ptr <| And.intro @canT_ptr <|
  And.intro @cl0_ptr <| And.intro @clA_ptr <| And.intro @clT_ptr <| And.intro @idsA_agg <| And.intro @idsT_agg <| And.intro @idsT_tup <| And.intro @canA_agg <| And.intro @canT_agg <| And.intro @canT_tup <| And.intro @clA_agg <|
  And.intro @clT_agg <| And.intro @clT_tup <| And.intro @pos_nil <| And.intro @pos_cons <| And.intro @clOb_arr <| And.intro @clOb_box <| And.intro @goIds_nil <| And.intro @goIds_cons <| And.intro @retV_eq <| And.intro @ClRows_nil_eq <|
  And.intro @ClRows_int_eq <| And.intro @ClRows_one_eq <| And.intro @Cl_int_eq <| And.intro @Cl_bool_eq <| And.intro @Cl_str_eq <| And.intro @wk_mk <| And.intro @envWk_nil <| And.intro @envWk_cons <| And.intro @objsWk_self <| @objsWk_nil) :=
  And.intro @can0_str <| And.intro @canA_str <| And.intro @canT_str <| And.intro @cl0_str <| And.intro @clA_str <| And.intro @clT_str <| And.intro @ids0_sl <| And.intro @idsA_sl <| And.intro @idsT_sl <| And.intro @can0_sl <|
  And.intro @canA_sl <| And.intro @canT_sl <| And.intro @cl0_sl <| And.intro @clA_sl <| And.intro @clT_sl <| And.intro @ids0_own <| And.intro @idsA_own <| And.intro @idsT_own <| And.intro @can0_own <| And.intro @canA_own <|
  And.intro @canT_own <| And.intro @cl0_own <| And.intro @clA_own <| And.intro @clT_own <| And.intro @ids0_ptr <| And.intro @idsA_ptr <| And.intro @idsT_ptr <| And.intro @can0_ptr <| And.intro @canA_ptr <| And.intro @canT_ptr <|
  And.intro @cl0_ptr <| And.intro @clA_ptr <| And.intro @clT_ptr <| And.intro @idsA_agg <| And.intro @idsT_agg <| And.intro @idsT_tup <| And.intro @canA_agg <| And.intro @canT_agg <| And.intro @canT_tup <| And.intro @clA_agg <|
  And.intro @clT_agg <| And.intro @clT_tup <| And.intro @pos_nil <| And.intro @pos_cons <| And.intro @clOb_arr <| And.intro @clOb_box <| And.intro @goIds_nil <| And.intro @goIds_cons <| And.intro @retV_eq <| And.intro @ClRows_nil_eq <|
  And.intro @ClRows_int_eq <| And.intro @ClRows_one_eq <| And.intro @Cl_int_eq <| And.intro @Cl_bool_eq <| And.intro @Cl_str_eq <| And.intro @wk_mk <| And.intro @envWk_nil <| And.intro @envWk_cons <| And.intro @objsWk_self <| @objsWk_nil
theorem vcA5 : type_of% (
  And.intro @objsWk_none <| And.intro @objsWk_some <| And.intro @RO_len <| And.intro @RO_get <| And.intro @RO_get0 <| And.intro @RO_set <| And.intro @RO_set0 <| And.intro @intRows_length <| And.intro @intRows_get <|
  And.intro @intRows_append <| And.intro @intRows_nil <| And.intro @intRows_take <| And.intro @intRows_drop <| And.intro @rowsBytes_int <| And.intro @isInts_sl <| And.intro @isInts_nil <| And.intro @intsD_sl <| And.intro @intsD_nil <|
  And.intro @allP_nil <| And.intro @allP_cons <| And.intro @ndup_nil <| And.intro @ndup_cons <| And.intro @notIn_nil <| And.intro @notIn_cons <| And.intro @ClRows_cons <| And.intro @wkT_tup <| And.intro @wkT_agg <| And.intro @wkA_agg <|
  And.intro @wkL_nil <| And.intro @wkL_cons <| And.intro @wkT_sl <| And.intro @wkA_sl <| And.intro @wk0_sl <| And.intro @wkT_int <| And.intro @wkA_int <| And.intro @wk0_int <| And.intro @wkT_bool <| And.intro @wkA_bool <|
  And.intro @wk0_bool <| And.intro @wkT_str <| And.intro @wkA_str <| And.intro @wk0_str <| And.intro @wkT_own <| And.intro @wkA_own <| And.intro @wk0_own <| And.intro @wkT_ptr <| And.intro @wkA_ptr <| And.intro @intRows_fold1 <|
  And.intro @intRows_foldc <| And.intro @intRows_set <| And.intro @addId_nil <| And.intro @addId_cons <| And.intro @addIds_nil <| And.intro @addIds_cons <| And.intro @idsE_nil <| And.intro @idsE_cons <| And.intro @canE_nil <|
  And.intro @canE_cons <| And.intro @canI_eq <| @canS_mk) :=
  And.intro @objsWk_none <| And.intro @objsWk_some <| And.intro @RO_len <| And.intro @RO_get <| And.intro @RO_get0 <| And.intro @RO_set <| And.intro @RO_set0 <| And.intro @intRows_length <| And.intro @intRows_get <|
  And.intro @intRows_append <| And.intro @intRows_nil <| And.intro @intRows_take <| And.intro @intRows_drop <| And.intro @rowsBytes_int <| And.intro @isInts_sl <| And.intro @isInts_nil <| And.intro @intsD_sl <| And.intro @intsD_nil <|
  And.intro @allP_nil <| And.intro @allP_cons <| And.intro @ndup_nil <| And.intro @ndup_cons <| And.intro @notIn_nil <| And.intro @notIn_cons <| And.intro @ClRows_cons <| And.intro @wkT_tup <| And.intro @wkT_agg <| And.intro @wkA_agg <|
  And.intro @wkL_nil <| And.intro @wkL_cons <| And.intro @wkT_sl <| And.intro @wkA_sl <| And.intro @wk0_sl <| And.intro @wkT_int <| And.intro @wkA_int <| And.intro @wk0_int <| And.intro @wkT_bool <| And.intro @wkA_bool <|
  And.intro @wk0_bool <| And.intro @wkT_str <| And.intro @wkA_str <| And.intro @wk0_str <| And.intro @wkT_own <| And.intro @wkA_own <| And.intro @wk0_own <| And.intro @wkT_ptr <| And.intro @wkA_ptr <| And.intro @intRows_fold1 <|
  And.intro @intRows_foldc <| And.intro @intRows_set <| And.intro @addId_nil <| And.intro @addId_cons <| And.intro @addIds_nil <| And.intro @addIds_cons <| And.intro @idsE_nil <| And.intro @idsE_cons <| And.intro @canE_nil <|
  And.intro @canE_cons <| And.intro @canI_eq <| @canS_mk
theorem vcA6 : type_of% (
  And.intro @idsT_rp <| And.intro @idsT_undef <| And.intro @canT_rp <| @objsWk_pre) :=
  And.intro @idsT_rp <| And.intro @idsT_undef <| And.intro @canT_rp <| @objsWk_pre
theorem vcP1 : type_of% (
  And.intro @opsWp_nil <| And.intro @opsWp_cons <| And.intro @stV_build <| And.intro @stV_mkrow <| And.intro @stV_call <| And.intro @stV_mov <| And.intro @stV_pick <| And.intro @stV_box <| And.intro @stV_alloc <| And.intro @stV_load <|
  And.intro @stV_store <| And.intro @stV_nilck <| And.intro @stV_bin <| And.intro @stV_eqB <| And.intro @stV_eqNil <| And.intro @stV_un <| And.intro @stV_i2i <| And.intro @stV_b2s <| And.intro @stV_s2b <| And.intro @stV_s2s <|
  And.intro @stV_lit <| And.intro @stV_slice <| And.intro @stV_sliceS <| And.intro @stV_faddr <| And.intro @stV_fld <| And.intro @stV_iaddr <| And.intro @stV_iaddrA <| And.intro @stV_idxS <| And.intro @stV_ext <| And.intro @stV_len <|
  And.intro @stV_lenS <| And.intro @stV_append <| And.intro @stV_mm <| And.intro @stV_mkslice <| And.intro @opsWp_guard <| And.intro @ot_done <| And.intro @ot_alt <| And.intro @ot_op <| And.intro @ot_guard <| And.intro @ot_take <|
  And.intro @ot_take0 <| And.intro @rc_skip <| And.intro @rc_reg <| And.intro @rc_regD <| And.intro @rc_seq <| And.intro @rc_cond <| And.intro @rc_blk <| And.intro @rc_loop <| And.intro @rc_ext <| And.intro @rc_ret <| And.intro @thenQ_n <|
  And.intro @thenQ_r <| And.intro @thenQ_e <| And.intro @inBlk_n <| And.intro @inBlk_r <| And.intro @inBlk_e <| And.intro @finQ_n <| And.intro @finQ_r <| And.intro @bindB_bool <| @bindO_some) :=
  And.intro @opsWp_nil <| And.intro @opsWp_cons <| And.intro @stV_build <| And.intro @stV_mkrow <| And.intro @stV_call <| And.intro @stV_mov <| And.intro @stV_pick <| And.intro @stV_box <| And.intro @stV_alloc <| And.intro @stV_load <|
  And.intro @stV_store <| And.intro @stV_nilck <| And.intro @stV_bin <| And.intro @stV_eqB <| And.intro @stV_eqNil <| And.intro @stV_un <| And.intro @stV_i2i <| And.intro @stV_b2s <| And.intro @stV_s2b <| And.intro @stV_s2s <|
  And.intro @stV_lit <| And.intro @stV_slice <| And.intro @stV_sliceS <| And.intro @stV_faddr <| And.intro @stV_fld <| And.intro @stV_iaddr <| And.intro @stV_iaddrA <| And.intro @stV_idxS <| And.intro @stV_ext <| And.intro @stV_len <|
  And.intro @stV_lenS <| And.intro @stV_append <| And.intro @stV_mm <| And.intro @stV_mkslice <| And.intro @opsWp_guard <| And.intro @ot_done <| And.intro @ot_alt <| And.intro @ot_op <| And.intro @ot_guard <| And.intro @ot_take <|
  And.intro @ot_take0 <| And.intro @rc_skip <| And.intro @rc_reg <| And.intro @rc_regD <| And.intro @rc_seq <| And.intro @rc_cond <| And.intro @rc_blk <| And.intro @rc_loop <| And.intro @rc_ext <| And.intro @rc_ret <| And.intro @thenQ_n <|
  And.intro @thenQ_r <| And.intro @thenQ_e <| And.intro @inBlk_n <| And.intro @inBlk_r <| And.intro @inBlk_e <| And.intro @finQ_n <| And.intro @finQ_r <| And.intro @bindB_bool <| @bindO_some
theorem vcP2 : type_of% (
  And.intro @bindO_none <| And.intro @bindO_map <| And.intro @bindO_bind <| And.intro @bindO_ite <| And.intro @cnd_true <| And.intro @cnd_false <| And.intro @callV_some <| And.intro @callV_h <| And.intro @bindG_bool <| And.intro @bindG_no <|
  And.intro @bindO_getI <| And.intro @bindO_getU <| And.intro @canGo_nil <| @canGo_cons) :=
  And.intro @bindO_none <| And.intro @bindO_map <| And.intro @bindO_bind <| And.intro @bindO_ite <| And.intro @cnd_true <| And.intro @cnd_false <| And.intro @callV_some <| And.intro @callV_h <| And.intro @bindG_bool <| And.intro @bindG_no <|
  And.intro @bindO_getI <| And.intro @bindO_getU <| And.intro @canGo_nil <| @canGo_cons
theorem vcR : type_of% (And.intro @vcA1 <| And.intro @vcA2 <| And.intro @vcA3 <| And.intro @vcA4 <| And.intro @vcA5 <| And.intro @vcA6 <| And.intro @vcA7 <| And.intro @Option.map_some.{0, 0} <| And.intro @Option.map_none.{0, 0} <| And.intro @Option.bind_some.{0, 0} <| And.intro @Option.bind_none.{0, 0} <| And.intro @beq_true <| And.intro @beq_false <| And.intro @Bool.not_true <| And.intro @Bool.not_false <| And.intro @BEq.rfl.{0} <| And.intro @Bool.true_beq <| And.intro @Bool.false_beq <| And.intro @and_true <| And.intro @true_and <| And.intro @and_self <| And.intro @decide_true <| And.intro @decide_false <| And.intro @List.length_cons.{0} <| And.intro @List.length_nil.{0} <| And.intro @List.all_cons.{0} <| And.intro @List.all_nil.{0} <| And.intro @Bool.and_true <| And.intro @Bool.and_self <| And.intro @List.getElem?_cons_zero.{0} <| And.intro @List.getElem?_cons_succ.{0} <| And.intro @List.set_cons_zero.{0} <| And.intro @List.set_cons_succ.{0} <| And.intro @List.nil_append.{0} <| And.intro @List.cons_append.{0} <| And.intro @List.append_nil.{0} <| And.intro @List.map_cons.{0, 0} <| And.intro @List.map_nil.{0, 0} <| And.intro @not_true_eq_false <| And.intro @not_false_eq_true <| And.intro @false_implies <| And.intro @true_implies <| And.intro @List.take_succ_cons.{0} <| And.intro @List.take_zero.{0} <| And.intro @List.take_nil.{0} <| And.intro @List.drop_succ_cons.{0} <| And.intro @List.drop_zero.{0} <| And.intro @List.drop_nil.{0} <| And.intro @List.replicate_zero.{0} <| And.intro @List.replicate_succ.{0} <| And.intro @List.flatMap_cons.{0, 0} <| And.intro @List.flatMap_nil.{0, 0} <| And.intro @List.length_replicate.{0} <| And.intro @List.length_append.{0} <| And.intro @Nat.le_refl <| And.intro @Nat.le_add_right <| And.intro @Nat.add_assoc <| And.intro @List.append_assoc.{0} <| And.intro @or_true <| And.intro @true_or <| And.intro @or_false <| And.intro @false_or <| And.intro @and_false <| And.intro @false_and <| And.intro @Option.some.injEq.{0} <| And.intro @DV.int.injEq <| And.intro @DV.bool.injEq <| And.intro @DV.sl.injEq <| And.intro @DV.own.injEq <| And.intro @DV.tup.injEq <| And.intro @List.cons.injEq.{0} <| And.intro @Ob.arr.injEq <| And.intro @Ob.box.injEq <| And.intro @Option.map_map.{0, 0, 0} <| And.intro @Int.toNat_natCast <| And.intro @Int.toNat_zero <| And.intro @Int.toNat_one <| And.intro @Nat.mul_one <| And.intro @Nat.zero_add <| And.intro @Nat.add_zero <| And.intro @List.map_append.{0, 0} <| And.intro @List.map_replicate.{0, 0} <| And.intro @Int.cast_ofNat_Int <| And.intro @Nat.left_eq_add <| And.intro @Nat.add_eq_left <| @Nat.add_left_cancel_iff) :=
  And.intro @vcA1 <| And.intro @vcA2 <| And.intro @vcA3 <| And.intro @vcA4 <| And.intro @vcA5 <| And.intro @vcA6 <| And.intro @vcA7 <| And.intro @Option.map_some.{0, 0} <| And.intro @Option.map_none.{0, 0} <| And.intro @Option.bind_some.{0, 0} <| And.intro @Option.bind_none.{0, 0} <| And.intro @beq_true <| And.intro @beq_false <| And.intro @Bool.not_true <| And.intro @Bool.not_false <| And.intro @BEq.rfl.{0} <| And.intro @Bool.true_beq <| And.intro @Bool.false_beq <| And.intro @and_true <| And.intro @true_and <| And.intro @and_self <| And.intro @decide_true <| And.intro @decide_false <| And.intro @List.length_cons.{0} <| And.intro @List.length_nil.{0} <| And.intro @List.all_cons.{0} <| And.intro @List.all_nil.{0} <| And.intro @Bool.and_true <| And.intro @Bool.and_self <| And.intro @List.getElem?_cons_zero.{0} <| And.intro @List.getElem?_cons_succ.{0} <| And.intro @List.set_cons_zero.{0} <| And.intro @List.set_cons_succ.{0} <| And.intro @List.nil_append.{0} <| And.intro @List.cons_append.{0} <| And.intro @List.append_nil.{0} <| And.intro @List.map_cons.{0, 0} <| And.intro @List.map_nil.{0, 0} <| And.intro @not_true_eq_false <| And.intro @not_false_eq_true <| And.intro @false_implies <| And.intro @true_implies <| And.intro @List.take_succ_cons.{0} <| And.intro @List.take_zero.{0} <| And.intro @List.take_nil.{0} <| And.intro @List.drop_succ_cons.{0} <| And.intro @List.drop_zero.{0} <| And.intro @List.drop_nil.{0} <| And.intro @List.replicate_zero.{0} <| And.intro @List.replicate_succ.{0} <| And.intro @List.flatMap_cons.{0, 0} <| And.intro @List.flatMap_nil.{0, 0} <| And.intro @List.length_replicate.{0} <| And.intro @List.length_append.{0} <| And.intro @Nat.le_refl <| And.intro @Nat.le_add_right <| And.intro @Nat.add_assoc <| And.intro @List.append_assoc.{0} <| And.intro @or_true <| And.intro @true_or <| And.intro @or_false <| And.intro @false_or <| And.intro @and_false <| And.intro @false_and <| And.intro @Option.some.injEq.{0} <| And.intro @DV.int.injEq <| And.intro @DV.bool.injEq <| And.intro @DV.sl.injEq <| And.intro @DV.own.injEq <| And.intro @DV.tup.injEq <| And.intro @List.cons.injEq.{0} <| And.intro @Ob.arr.injEq <| And.intro @Ob.box.injEq <| And.intro @Option.map_map.{0, 0, 0} <| And.intro @Int.toNat_natCast <| And.intro @Int.toNat_zero <| And.intro @Int.toNat_one <| And.intro @Nat.mul_one <| And.intro @Nat.zero_add <| And.intro @Nat.add_zero <| And.intro @List.map_append.{0, 0} <| And.intro @List.map_replicate.{0, 0} <| And.intro @Int.cast_ofNat_Int <| And.intro @Nat.left_eq_add <| And.intro @Nat.add_eq_left <| @Nat.add_left_cancel_iff
def CanonT (n : Nat) (f : Nat → Option Nat) (d : DV) (T : Objs) (d' : DV) (os : Objs) : Prop :=
  Ren f d d' ∧ (∀ (k : Nat) ob', os[k]? = some (some ob') → ∃ o ob, f o = some (n + k) ∧ T[o]? = some (some ob) ∧ RenOb f ob ob') ∧
    (∀ a b x, f a = some x → f b = some x → a = b) ∧ (∀ a x, f a = some x → n ≤ x ∧ x < n + os.length)
theorem GCalls.canonT {E : Prg} {f : Nat} {args : List DV} {n : Nat} {R R' : DV → Objs → Prop} {T0 : Objs} (hn : T0.length = n) (h : GCalls E f args T0 R)
    (hR : ∀ r T', R r T' → ∃ g r' os, CanonT n g r T' r' os ∧ R' r' (List.replicate n none ++ os)) : GCalls E f args T0 R' := by
  intro G w vs h1 h2 h3 h4
  refine Calls.mono (h G w vs h1 h2 h3 h4) fun e w' ⟨v, r, T', G', a, hr, hl, hrel, hh, hf⟩ => ?_
  obtain ⟨g, r', os, ⟨c1, c2, c3, c4⟩, hR'⟩ := hR r T' hr
  open Classical in
  let G2 : Gh := { rd := G'.rd, pl := fun x => if x < n then G.pl x else if hx : ∃ o, g o = some x then G'.pl (Classical.choose hx) else none }
  have hpl : ∀ o o' p, g o = some o' → G'.pl o = some p → G2.pl o' = some p := fun o o' p ho hp => by
    have h5 := (c4 o o' ho).1
    show (if o' < n then G.pl o' else if hx : ∃ o, g o = some o' then G'.pl (Classical.choose hx) else none) = some p
    rw [if_neg (by omega), dif_pos ⟨o, ho⟩]
    have := Classical.choose_spec (⟨o, ho⟩ : ∃ o, g o = some o')
    rw [c3 _ _ _ this ho]; exact hp
  have hpl2 : ∀ x p, G2.pl x = some p → (x < n ∧ G.pl x = some p) ∨ (n ≤ x ∧ x < n + os.length ∧ ∃ o, g o = some x ∧ G'.pl o = some p) := fun x p hx => by
    change (if x < n then G.pl x else if hx : ∃ o, g o = some x then G'.pl (Classical.choose hx) else none) = some p at hx
    by_cases hlt : x < n
    · rw [if_pos hlt] at hx; exact .inl ⟨hlt, hx⟩
    · rw [if_neg hlt] at hx
      by_cases he : ∃ o, g o = some x
      · rw [dif_pos he] at hx
        have hs := Classical.choose_spec he
        exact .inr ⟨by omega, (c4 _ _ hs).2, _, hs, hx⟩
      · rw [dif_neg he] at hx; cases hx
  have hT : ∀ (k : Nat) ob, (List.replicate n (none : Option Ob) ++ os)[k]? = some (some ob) → n ≤ k ∧ os[k - n]? = some (some ob) := fun k ob hk => by
    by_cases hlt : k < n
    · rw [List.getElem?_append_left (by simpa using hlt)] at hk; exact (getElem?_rep hk).elim
    · rw [List.getElem?_append_right (by simpa using hlt)] at hk
      exact ⟨by omega, by simpa using hk⟩
  have hob : ∀ (k : Nat) ob', (List.replicate n (none : Option Ob) ++ os)[k]? = some (some ob') → ∃ o ob, g o = some k ∧ T'[o]? = some (some ob) ∧ RenOb g ob ob' := fun k ob' hk => by
    obtain ⟨h5, h6⟩ := hT k ob' hk
    obtain ⟨o, ob, h7, h8, h9⟩ := c2 _ _ h6
    rw [show n + (k - n) = k by omega] at h7
    exact ⟨o, ob, h7, h8, h9⟩
  have hlive : ∀ (k : Nat) ob' p, (List.replicate n (none : Option Ob) ++ os)[k]? = some (some ob') → G2.pl k = some p → ∃ o ob, g o = some k ∧ T'[o]? = some (some ob) ∧ RenOb g ob ob' ∧ G'.pl o = some p := fun k ob' p hk hp => by
    obtain ⟨o, ob, h5, h6, h7⟩ := hob k ob' hk
    obtain ⟨q, hq, _⟩ := hh.live o ob h6
    rw [hpl o k q h5 hq] at hp
    obtain rfl := sj hp
    exact ⟨o, ob, h5, h6, h7, hq⟩
  refine ⟨v, r', _, G2, a, hR', by simp [hn], c1.rel (G := G') (G' := G2) (fun _ _ h => h) hpl hrel, ⟨?_, ?_, ?_, hh.rdv, ?_⟩, ⟨hf.os, hf.tape, hf.output, hf.size, hf.blk, hf.cell, hf.frz, ?_, hf.rdn, ⟨hf.le.rd, ?_⟩, hf.mko⟩⟩
  · intro k p hp
    rcases hpl2 k p hp with ⟨h5, _⟩ | ⟨_, h5, _⟩ <;> simp <;> omega
  · intro k ob' hk
    obtain ⟨o, ob, h5, h6, h7⟩ := hob k ob' hk
    obtain ⟨q, hq, hl⟩ := hh.live o ob h6
    refine ⟨q, hpl o k q h5 hq, ⟨hl.psz.trans h7.2.1, h7.2.2.1 ▸ hl.fits, fun row hrow => ?_, fun _ => hl.there h7.1.1, fun i j row c v hi hj hv => ?_, hl.mko, fun es he => absurd h7.1.2 (by rw [he]; exact id)⟩⟩
    · obtain ⟨i, hi, he⟩ := List.getElem_of_mem hrow
      have hi2 : i < ob.rows.length := by rw [h7.2.2.1]; exact hi
      rw [← (h7.2.2.2 i ob.rows[i] row (List.getElem?_eq_getElem hi2) (by rw [List.getElem?_eq_getElem hi, he])).1]
      exact hl.size _ (List.getElem_mem hi2)
    · have hi2 : i < ob.rows.length := by rw [h7.2.2.1]; exact (List.getElem?_eq_some_iff.1 hi).1
      obtain ⟨h8, h9⟩ := h7.2.2.2 i ob.rows[i] row (List.getElem?_eq_getElem hi2) hi
      have hj2 : j < ob.rows[i].length := by rw [h8]; exact (List.getElem?_eq_some_iff.1 hj).1
      exact (h9 j _ c (List.getElem?_eq_getElem hj2) hj).rel (G := G') (G' := G2) (fun _ _ h => h) hpl (hl.holds i j ob.rows[i] ob.rows[i][j] v (List.getElem?_eq_getElem hi2) (List.getElem?_eq_getElem hj2) hv)
  · intro k k' x x' p p' m m' hk hk' hne hp hp' hm hm' e
    obtain ⟨o, ob, h5, h6, h7, h8⟩ := hlive k x p hk hp
    obtain ⟨o', ob', h5', h6', h7', h8'⟩ := hlive k' x' p' hk' hp'
    refine hh.sep o o' ob ob' p p' m m' h6 h6' (fun e2 => ?_) h8 h8' hm hm' e
    subst e2
    exact hne (sj (h5.symm.trans h5'))
  · intro k x p m hk hp hm
    obtain ⟨o, ob, h5, h6, h7, h8⟩ := hlive k x p hk hp
    exact hh.rds o ob p m h6 h8 hm
  · intro k x p m hk hp hm
    obtain ⟨o, ob, h5, h6, h7, h8⟩ := hlive k x p hk hp
    exact hf.mine o ob p m h6 h8 hm
  · intro k p hp
    have hk := h2.pls k p hp
    rw [hn] at hk
    show (if k < n then G.pl k else _) = some p
    rw [if_pos hk]; exact hp
def goIdsC (T : Objs) : List Nat → (Objs → Prop) → Prop
  | [], k => k []
  | i :: l, k => bindO T[i]? fun x => bindO x fun ob => clOb ob ∧ goIdsC T l fun os => k (some ob :: os)
theorem goIdsC_spec {T : Objs} : ∀ {ids : List Nat} {K : Objs → Prop}, goIdsC T ids K → ∃ os, K os ∧ os.length = ids.length ∧ ∀ (k : Nat) (ob' : Ob), os[k]? = some (some ob') → ∃ o, ids[k]? = some o ∧ T[o]? = some (some ob') ∧ clOb ob'
  | [], K, h => ⟨[], h, rfl, by simp⟩
  | i :: l, K, h => by
    simp only [goIdsC] at h
    cases h1 : T[i]? with
    | none => rw [h1] at h; exact h.elim
    | some x =>
      rw [h1] at h
      cases x with
      | none => exact h.elim
      | some ob =>
        obtain ⟨h0, h⟩ := h
        obtain ⟨os, h2, h3, h4⟩ := goIdsC_spec h
        refine ⟨some ob :: os, h2, by simp [h3], fun k ob' hk => ?_⟩
        rcases k with _ | k
        · simp at hk; subst hk; exact ⟨i, rfl, h1, h0⟩
        · exact h4 k ob' (by simpa using hk)
def retH (n : Nat) (d : DV) (T : Objs) (K : DV → Objs → Prop) : Prop := ndup (idsT d) ∧ clT d ∧ goIdsC T (idsT d) fun os => K (canT n (idsT d) d) os
theorem retH_spec {n : Nat} {d : DV} {T : Objs} {K : DV → Objs → Prop} (h : retH n d T K) : ∃ g r' os, CanonT n g d T r' os ∧ K r' os := by
  obtain ⟨hn, hc, hg⟩ := h
  rw [ndup_eq] at hn
  obtain ⟨os, h1, h2, h4⟩ := goIdsC_spec hg
  refine ⟨pick1 n (idsT d), _, os, ⟨renT (fun _ h => h) hc, fun k ob' hk => ?_, fun a b x ha hb => ?_, fun a x ha => ?_⟩, h1⟩
  · obtain ⟨o, h5, h6, h7⟩ := h4 k ob' hk
    have hm := List.mem_of_getElem? h5
    refine ⟨o, ob', ?_, h6, renOb h7⟩
    show (if o ∈ idsT d then some (n + pos o (idsT d)) else none) = some (n + k)
    rw [if_pos hm]
    have h8 := pos_get hm
    have : pos o (idsT d) = k := (List.getElem?_inj (pos_lt hm) hn).1 (h8.trans h5.symm)
    rw [this]
  · unfold pick1 at ha hb
    by_cases hma : a ∈ idsT d
    case neg => rw [if_neg hma] at ha; cases ha
    by_cases hmb : b ∈ idsT d
    case neg => rw [if_neg hmb] at hb; cases hb
    rw [if_pos hma] at ha
    rw [if_pos hmb] at hb
    have e : n + pos a (idsT d) = n + pos b (idsT d) := (sj ha).trans (sj hb).symm
    have h8 := pos_get hma
    have h9 := pos_get hmb
    rw [show pos a (idsT d) = pos b (idsT d) by omega, h9] at h8
    exact (sj h8).symm
  · unfold pick1 at ha
    split at ha
    · rename_i hm
      have := pos_lt hm
      obtain rfl := sj ha
      exact ⟨by omega, by omega⟩
    · cases ha
def HCalls (E : Prg) (f : Nat) (args : Nat → List DV) (obs : List Ob) (res : Nat → DV × Objs) : Prop :=
  ∀ n, GCalls E f (args n) (List.replicate n none ++ obs.map some) fun r T' => r = (res (n + obs.length)).1 ∧ T' = List.replicate (n + obs.length) none ++ (res (n + obs.length)).2
theorem HCalls.by_fn {E : Prg} {F : FTab} (hF : FOk E F) {f : Nat} {ann : List Ann} {rf : RFn} {args : Nat → List DV} {obs : List Ob} {res : Nat → DV × Objs} (hc : compFn E.P ann f = some rf) (hargs : ∀ n, (args n).length ≤ rf.n)
    (h : ∀ n, rf.code.wp E F rf.n (finQ rf.res fun d T' => n + obs.length ≤ T'.length ∧ retH (n + obs.length) d T' fun d' os => wkT d' (res (n + obs.length)).1 ∧ os = (res (n + obs.length)).2) ⟨initEnv 0 (args n), List.replicate n none ++ obs.map some⟩) : HCalls E f args obs res := by
  intro n
  have hlen : (List.replicate n (none : Option Ob) ++ obs.map some).length = n + obs.length := by simp
  have h1 : GCalls E f (args n) (List.replicate n none ++ obs.map some) fun d T' => retH (n + obs.length) d T' fun d' os => wkT d' (res (n + obs.length)).1 ∧ os = (res (n + obs.length)).2 := by
    refine GCalls.of_fn hF hc (hargs n) ?_
    refine RC.wp_mono _ (h n) fun e st hh => ?_
    cases e with
    | normal =>
      simp only [finQ] at hh ⊢
      split at hh
      · exact ⟨by rw [hlen]; exact hh.1, hh.2⟩
      · exact hh.elim
    | ret =>
      simp only [finQ] at hh ⊢
      split at hh
      · exact ⟨by rw [hlen]; exact hh.1, hh.2⟩
      · exact hh.elim
    | _ => exact hh
  have h2 : GCalls E f (args n) (List.replicate n none ++ obs.map some) fun d T' => wkT d (res (n + obs.length)).1 ∧ T' = List.replicate (n + obs.length) none ++ (res (n + obs.length)).2 :=
    GCalls.canonT hlen h1 fun r T' hr => by
      obtain ⟨g, r', os, hc, hk1, hk2⟩ := retH_spec hr
      exact ⟨g, r', os, hc, hk1, by rw [hk2]⟩
  intro G w vs g1 g2 g3 g4
  refine Calls.mono (h2 G w vs g1 g2 g3 g4) fun e w' ⟨v, r, T', G', a, ⟨hr, hT⟩, hl, hrel, hh, hf⟩ => ?_
  exact ⟨v, _, T', G', a, ⟨rfl, hT⟩, hl, wkT_rel hr hrel, hh, hf⟩
def killL : List Nat → Objs → Objs
  | [], T => T
  | i :: l, T => killL l (T.set i none)
def isOwn (k : IntKind) (n : Nat) : Option (Option Ob) → Prop
  | some (some (.arr sz rows)) => sz = 1 ∧ rows = intRows k (ints rows) ∧ rows.length = n ∧ inK k (ints rows)
  | _ => False
def objInts : Option (Option Ob) → List Int
  | some (some (.arr _ rows)) => ints rows
  | _ => []
theorem isOwn_arr (k : IntKind) (n : Nat) (l : List Int) : isOwn k n (some (some (.arr 1 (intRows k l)))) = (l.length = n ∧ inK k l) := by simp [isOwn, ints_intRows, intRows_length]
theorem objInts_arr (k : IntKind) (sz : Nat) (l : List Int) : objInts (some (some (.arr sz (intRows k l)))) = l := by simp [objInts, ints_intRows]
theorem goIdsC_nil (T : Objs) (k : Objs → Prop) : goIdsC T [] k = k [] := nrfl _
theorem goIdsC_cons (T : Objs) (i : Nat) (l : List Nat) (k : Objs → Prop) : goIdsC T (i :: l) k = (bindO T[i]? fun x => bindO x fun ob => clOb ob ∧ goIdsC T l fun os => k (some ob :: os)) := nrfl _
theorem retH_eq (n : Nat) (d : DV) (T : Objs) (K : DV → Objs → Prop) : retH n d T K = (ndup (idsT d) ∧ clT d ∧ goIdsC T (idsT d) fun os => K (canT n (idsT d) d) os) := nrfl _
theorem killL_nil (T : Objs) : killL [] T = T := nrfl _
theorem killL_cons (i : Nat) (l : List Nat) (T : Objs) : killL (i :: l) T = killL l (T.set i none) := nrfl _
def ldV (ag : Bool) (sz : Nat) (T : Objs) : DV → Option DV
  | .ptr o i j => (T[o]?).bind fun x => x.bind fun ob => (ob.rows[i]?).bind fun row => rowAt ag sz row j
  | .rp row j => rowAt ag sz row j
  | _ => none
theorem resC2 (st : St) (i : Nat) (ag : Bool) (sz : Nat) : Res.ev st (.c i ag sz) = ldV ag sz st.objs (st.get i) := by
  simp only [Res.ev, ldV]
  generalize st.get i = d
  cases d <;> try rfl
  rename_i o r j
  simp only
  cases st.objs[o]? with
  | none => rfl
  | some x =>
    cases x with
    | none => rfl
    | some ob =>
      simp only [Option.bind_some]
      cases ob.rows[r]? <;> rfl
theorem ldV_ptr (ag : Bool) (sz : Nat) (T : Objs) (o i j : Nat) : ldV ag sz T (.ptr o i j) = (T[o]?).bind fun x => x.bind fun ob => (ob.rows[i]?).bind fun row => rowAt ag sz row j := nrfl _
theorem ldV_rp (ag : Bool) (sz : Nat) (T : Objs) (row : List DV) (j : Nat) : ldV ag sz T (.rp row j) = rowAt ag sz row j := nrfl _
def ownsT : DV → List Nat
  | .tup cs => cs.flatMap ownIds
  | d => ownIds d
def frzK (st : St) (K : DV → Objs → Prop) : Prop := K (st.get 0) st.objs
def frzR (d : DV) (T : Objs) (K : DV → Objs → Prop) : Prop := frzK (St.freezes (ownsT d) ⟨[(0, d)], T⟩) K
theorem frzR_eq (d : DV) (T : Objs) (K : DV → Objs → Prop) : frzR d T K = frzK (St.freezes (ownsT d) ⟨[(0, d)], T⟩) K := nrfl _
theorem frzK_mk (d : DV) (T : Objs) (K : DV → Objs → Prop) : frzK ⟨[(0, d)], T⟩ K = K d T := nrfl _
theorem ownsT_tup (cs : List DV) : ownsT (.tup cs) = cs.flatMap ownIds := nrfl _
theorem ownsT_own (o off n : Nat) : ownsT (.own o off n) = [o] := nrfl _
theorem ownsT_agg (cs : List DV) : ownsT (.agg cs) = ownIds (.agg cs) := nrfl _
theorem ownsT_sl (sz : Nat) (rows : List (List DV)) (k : SK) : ownsT (.sl sz rows k) = [] := nrfl _
theorem ownIds_int (k : IntKind) (n : Int) : ownIds (.int k n) = [] := nrfl _
theorem ownIds_bool (b : Bool) : ownIds (.bool b) = [] := nrfl _
theorem ownIds_str (b : List UInt8) : ownIds (.str b) = [] := nrfl _
theorem ownIds_ptr (o i j : Nat) : ownIds (.ptr o i j) = [] := nrfl _
theorem freeze_len (o : Nat) (st : St) : (st.freeze o).objs.length = st.objs.length := by
  unfold St.freeze
  split
  · split <;> simp
  · rfl
theorem freezes_len : ∀ (l : List Nat) (st : St), (St.freezes l st).objs.length = st.objs.length
  | [], st => rfl
  | o :: l, st => by rw [St.freezes, freezes_len l, freeze_len]
theorem GCalls.frz {E : Prg} {f : Nat} {args : List DV} {T : Objs} {R : DV → Objs → Prop} (h : GCalls E f args T R) : GCalls E f args T fun r T' => ∃ d T0, R d T0 ∧ r = (St.freezes (ownsT d) ⟨[(0, d)], T0⟩).get 0 ∧ T' = (St.freezes (ownsT d) ⟨[(0, d)], T0⟩).objs := by
  intro G w vs g1 g2 g3 g4
  refine Calls.mono (h G w vs g1 g2 g3 g4) fun e w' ⟨v, r, T', G', a, hR, hl, hrel, hh, hf⟩ => ?_
  have hr : RelSt E ⟨w, G, cellsOf G T, 1⟩ ⟨[(0, r)], T'⟩ ⟨#[v], []⟩ w' := by
    refine ⟨G', fun t => ?_, rfl, rfl, hh, hf.ctx, fun g row hg => (g1 g row hg).mono hf.le⟩
    by_cases e : t = 0
    · subst e; exact hrel
    · have : St.get ⟨[(0, r)], T'⟩ t = .undef := by
        simp only [St.get, St.look]
        rw [if_neg (fun h => e h.symm)]
      rw [this]; exact .undef _
  obtain ⟨G2, h2⟩ := hr.freezes (ownsT r)
  refine ⟨v, _, _, G2, a, ⟨r, T', hR, rfl, rfl⟩, by rw [freezes_len]; exact hl, h2.env 0, h2.heap, h2.frm.ctx⟩
def idNe (d d' : DV) : Prop := ∀ o, DV.id d = some o → DV.id d' ≠ some o
theorem clearOf_1 {E : Prg} {st : St} {op : ROp} {x p : Opd} (h : op.opds = [x]) : clearOf E st op p = idNe (Opd.ev E st x) (Opd.ev E st p) := by simp [clearOf, h, idNe]
theorem clearOf_load (E : Prg) (st : St) (ag : Bool) (sz : Nat) (x p : Opd) : clearOf E st (.load ag sz x) p = idNe (Opd.ev E st x) (Opd.ev E st p) := clearOf_1 rfl
theorem clearOf_b2s (E : Prg) (st : St) (x p : Opd) : clearOf E st (.conv .b2s x) p = idNe (Opd.ev E st x) (Opd.ev E st p) := clearOf_1 rfl
theorem clearOf_iaddr (E : Prg) (st : St) (sz : Nat) (x y p : Opd) : clearOf E st (.iaddr sz x y) p = (idNe (Opd.ev E st x) (Opd.ev E st p) ∧ idNe (Opd.ev E st y) (Opd.ev E st p)) := by simp [clearOf, ROp.opds, idNe]
theorem idNe_pp (o i j o' i' j' : Nat) : idNe (.ptr o i j) (.ptr o' i' j') = ¬ o = o' := by simp [idNe, DV.id]; exact ⟨fun h e => h e.symm, fun h e => h e.symm⟩
theorem idNe_po (o i j o' i' j' : Nat) : idNe (.ptr o i j) (.own o' i' j') = ¬ o = o' := by simp [idNe, DV.id]; exact ⟨fun h e => h e.symm, fun h e => h e.symm⟩
theorem idNe_op (o i j o' i' j' : Nat) : idNe (.own o i j) (.ptr o' i' j') = ¬ o = o' := by simp [idNe, DV.id]; exact ⟨fun h e => h e.symm, fun h e => h e.symm⟩
theorem idNe_oo (o i j o' i' j' : Nat) : idNe (.own o i j) (.own o' i' j') = ¬ o = o' := by simp [idNe, DV.id]; exact ⟨fun h e => h e.symm, fun h e => h e.symm⟩
theorem idNe_sl (sz : Nat) (rows : List (List DV)) (k : SK) (d : DV) : idNe (.sl sz rows k) d = True := by simp [idNe, DV.id]
theorem idNe_rp (row : List DV) (j : Nat) (d : DV) : idNe (.rp row j) d = True := by simp [idNe, DV.id]
theorem idNe_int (k : IntKind) (n : Int) (d : DV) : idNe (.int k n) d = True := by simp [idNe, DV.id]
theorem idNe_sl2 (sz : Nat) (rows : List (List DV)) (k : SK) (d : DV) : idNe d (.sl sz rows k) = True := by simp [idNe, DV.id]
theorem vcB3 : type_of% (And.intro @frzR_eq <| And.intro @frzK_mk <| And.intro @ownsT_tup <| And.intro @ownsT_own <| And.intro @ownsT_agg <| And.intro @ownsT_sl <| And.intro @ownIds_int <| And.intro @ownIds_bool <| And.intro @ownIds_str <| @ownIds_ptr) :=
  And.intro @frzR_eq <| And.intro @frzK_mk <| And.intro @ownsT_tup <| And.intro @ownsT_own <| And.intro @ownsT_agg <| And.intro @ownsT_sl <| And.intro @ownIds_int <| And.intro @ownIds_bool <| And.intro @ownIds_str <| @ownIds_ptr
theorem vcB2 : type_of% (And.intro @clearOf_load <| And.intro @clearOf_b2s <| And.intro @clearOf_iaddr <| And.intro @idNe_pp <| And.intro @idNe_po <| And.intro @idNe_op <| And.intro @idNe_oo <| And.intro @idNe_sl <| And.intro @idNe_rp <| And.intro @idNe_int <| @idNe_sl2) :=
  And.intro @clearOf_load <| And.intro @clearOf_b2s <| And.intro @clearOf_iaddr <| And.intro @idNe_pp <| And.intro @idNe_po <| And.intro @idNe_op <| And.intro @idNe_oo <| And.intro @idNe_sl <| And.intro @idNe_rp <| And.intro @idNe_int <| @idNe_sl2
theorem vcB1 : type_of% (And.intro @resC2 <| And.intro @ldV_ptr <| And.intro @ldV_rp <| And.intro @isOwn_arr <| And.intro @objInts_arr <| And.intro @goIdsC_nil <| And.intro @goIdsC_cons <| And.intro @retH_eq <| And.intro @killL_nil <| @killL_cons) :=
  And.intro @resC2 <| And.intro @ldV_ptr <| And.intro @ldV_rp <| And.intro @isOwn_arr <| And.intro @objInts_arr <| And.intro @goIdsC_nil <| And.intro @goIdsC_cons <| And.intro @retH_eq <| And.intro @killL_nil <| @killL_cons
section
section
variable (E : Prg) (F : FTab) (K : St → Prop) (st : St) (dst : Option Nat) (z : Bool) (f : Nat) (args : List Opd)
theorem stV_inv (dr : Bool) (y : Opd) (name : String) : stV E F dr (.inv y name args) dst z st K = invV E F dr (invOf E st.objs (Opd.ev E st y) name) (args.map (Opd.ev E st)) st.objs fun d T' => goSt (nx st (d, T') z dst) K := nrfl _
theorem ot_fin (op : ROp) (k : OT) : (OT.mid ⟨dst, op, none, z⟩ k).wp E F K st = stV E F false op dst z st (k.wp E F K) := nrfl _
theorem ot_fing (op : ROp) (t : Nat) (w : Bool) (k : OT) : (OT.mid ⟨dst, op, some (t, w), z⟩ k).wp E F K st = bindG (st.get t) (fun b => cnd (b == w) (goSt (st.know t w) fun st => stV E F false op dst z st (k.wp E F K)) (goSt ((st.know t (!w)).put dst .no) (k.wp E F K))) (goSt (st.put dst .no) (k.wp E F K)) := nrfl _
theorem stV_eqS (dr : Bool) (g : Bool) (ks : List CK) (x y : Opd) : stV E F dr (.eqS g ks x y) dst z st K = bindO (rvl E st (.eqS g ks x y)) fun p => goSt (nx st p z dst) K := stV_op E F K st dst (.eqS g ks x y) z dr rfl
theorem stV_copy (dr : Bool) (sz : Nat) (x y : Opd) : stV E F dr (.copy sz x y) dst z st K = bindO (rvl E st (.copy sz x y)) fun p => goSt (nx st p z dst) K := stV_op E F K st dst (.copy sz x y) z dr rfl
theorem stV_mkfn (dr : Bool) (l : List Opd) : stV E F dr (.mkfn f l) dst z st K = bindO (rvl E st (.mkfn f l)) fun p => goSt (nx st p z dst) K := stV_op E F K st dst (.mkfn f l) z dr rfl
theorem stV_mkIfc (dr : Bool) (t : TypeId) (x : Opd) : stV E F dr (.mkIfc t x) dst z st K = bindO (rvl E st (.mkIfc t x)) fun p => goSt (nx st p z dst) K := stV_op E F K st dst (.mkIfc t x) z dr rfl
theorem stV_asrt (dr : Bool) (t : TypeId) (x : Opd) : stV E F dr (.asrt t x) dst z st K = bindO (rvl E st (.asrt t x)) fun p => goSt (nx st p z dst) K := stV_op E F K st dst (.asrt t x) z dr rfl
theorem stV_eqP (dr : Bool) (g : Bool) (x y : Opd) : stV E F dr (.eqP g x y) dst z st K = bindO (rvl E st (.eqP g x y)) fun p => goSt (nx st p z dst) K := stV_op E F K st dst (.eqP g x y) z dr rfl
theorem rvl_eqP (g : Bool) (x y : Opd) : rvl E st (.eqP g x y) = (nilP (x.ev E st) (y.ev E st)).map fun b => (.bool (if g then !b else b), st.objs) := nrfl _
theorem nilP_ptr (o i j : Nat) : nilP (.ptr o i j) (.lit (.pointer none)) = some false := nrfl _
theorem nilP_rp (row : List DV) (j : Nat) : nilP (.rp row j) (.lit (.pointer none)) = some false := nrfl _
theorem nilP_nil : nilP (.lit (.pointer none)) (.lit (.pointer none)) = some true := nrfl _
theorem invV_some (d : DV) (as : List DV) (T : Objs) (L : DV → Objs → Prop) : invV E F false (some (f, d)) as T L = (hasBody E.P f = true ∧ callV E (F f (d :: as)) false f (d :: as) T L) := nrfl _
theorem calldV_clo (cs as : List DV) (T : Objs) (L : DV → Objs → Prop) : calldV E F false (.wrap (.clo f) cs) as T L = (hasBody E.P f = true ∧ callV E (F f (as ++ cs)) false f (as ++ cs) T L) := nrfl _
theorem invOf_ifc (T : Objs) (t : TypeId) (x : DV) (name : String) : invOf E T (.wrap (.ifc t) [x]) name = invRow T x (methRow E.P t name) := nrfl _
theorem invOf_ifa (T : Objs) (t : TypeId) (cs : List DV) (name : String) : invOf E T (.wrap (.ifa t) cs) name = invRow T (.agg cs) (methRow E.P t name) := nrfl _
theorem invRow_some (T : Objs) (d : DV) (way : Option (Bool × Nat)) : invRow T d (some (f, way)) = (invRecv T way d).map fun x => (f, x) := nrfl _
theorem invRecv_self (T : Objs) (d : DV) : invRecv T none d = some d := nrfl _
theorem invRecv_ptr (T : Objs) (ag : Bool) (sz o i j : Nat) : invRecv T (some (ag, sz)) (.ptr o i j) = (T[o]?).bind fun x => x.bind fun ob => (ob.rows[i]?).bind fun row => rowAt ag sz row j := by
  simp only [invRecv]
  generalize T[o]? = x
  rcases x with _ | _ | ob <;> try rfl
  simp only [Option.bind]
  generalize ob.rows[i]? = y
  cases y <;> rfl
theorem invRecv_rp (T : Objs) (ag : Bool) (sz j : Nat) (row : List DV) : invRecv T (some (ag, sz)) (.rp row j) = rowAt ag sz row j := nrfl _
theorem rvl_mkfn (l : List Opd) : rvl E st (.mkfn f l) = some (.wrap (.clo f) (l.map (Opd.ev E st)), st.objs) := nrfl _
def mkIfcV (t : TypeId) : DV → DV
  | .agg cs => .wrap (.ifa t) cs
  | d => .wrap (.ifc t) [d]
theorem rvl_mkIfc (t : TypeId) (x : Opd) : rvl E st (.mkIfc t x) = some (mkIfcV t (x.ev E st), st.objs) := by
  simp only [rvl, rval]
  cases x.ev E st <;> rfl
theorem mkIfcV_agg (t : TypeId) (cs : List DV) : mkIfcV t (.agg cs) = .wrap (.ifa t) cs := nrfl _
theorem mkIfcV_ptr (t : TypeId) (o i j : Nat) : mkIfcV t (.ptr o i j) = .wrap (.ifc t) [.ptr o i j] := nrfl _
theorem mkIfcV_rp (t : TypeId) (row : List DV) (j : Nat) : mkIfcV t (.rp row j) = .wrap (.ifc t) [.rp row j] := nrfl _
theorem mkIfcV_int (t : TypeId) (k : IntKind) (n : Int) : mkIfcV t (.int k n) = .wrap (.ifc t) [.int k n] := nrfl _
theorem mkIfcV_str (t : TypeId) (s : List UInt8) : mkIfcV t (.str s) = .wrap (.ifc t) [.str s] := nrfl _
theorem mkIfcV_own (t : TypeId) (o i j : Nat) : mkIfcV t (.own o i j) = .wrap (.ifc t) [.own o i j] := nrfl _
theorem mkIfcV_sl (t : TypeId) (s : Nat) (rows : List (List DV)) (k : SK) : mkIfcV t (.sl s rows k) = .wrap (.ifc t) [.sl s rows k] := nrfl _
def asrtV (t : TypeId) : DV → Option DV
  | .wrap (.ifc t') [d] => if t' = t then some d else none
  | .wrap (.ifa t') cs => if t' = t then some (.agg cs) else none
  | _ => none
theorem rvl_asrt (t : TypeId) (x : Opd) : rvl E st (.asrt t x) = (asrtV t (x.ev E st)).map (·, st.objs) := by
  simp only [rvl, rval]
  generalize x.ev E st = d
  unfold asrtV
  split
  · dsimp only; split <;> rfl
  · dsimp only; split <;> rfl
  · rename_i h1 h2
    split
    · exact (h1 _ _ rfl).elim
    · exact (h2 _ _ rfl).elim
    · rfl
theorem asrtV_ifc (t : TypeId) (d : DV) : asrtV t (.wrap (.ifc t) [d]) = some d := by simp [asrtV]
theorem asrtV_ifa (t : TypeId) (cs : List DV) : asrtV t (.wrap (.ifa t) cs) = some (.agg cs) := by simp [asrtV]
def eqsV (ks : List CK) : DV → DV → Option Bool
  | .agg a, .agg b => eqCells ks a b
  | _, _ => none
theorem rvl_eqS (neg : Bool) (ks : List CK) (x y : Opd) : rvl E st (.eqS neg ks x y) = (eqsV ks (x.ev E st) (y.ev E st)).map fun e => (.bool (if neg then !e else e), st.objs) := by
  simp only [rvl, rval]
  cases x.ev E st <;> cases y.ev E st <;> rfl
theorem eqsV_agg (ks : List CK) (a b : List DV) : eqsV ks (.agg a) (.agg b) = eqCells ks a b := nrfl _
theorem eqC_nil : eqCells [] [] [] = some true := nrfl _
theorem eqC_i (ks : List CK) (k : IntKind) (a b : Int) (x y : List DV) : eqCells (.i :: ks) (.int k a :: x) (.int k b :: y) = (eqCells ks x y).map (decide (a = b) && ·) := by simp [eqCells]
theorem eqC_b (ks : List CK) (a b : Bool) (x y : List DV) : eqCells (.b :: ks) (.bool a :: x) (.bool b :: y) = (eqCells ks x y).map (decide (a = b) && ·) := by simp [eqCells]
def copyO (sz o off n : Nat) (objs : Objs) (a : Nat × List (List DV)) : Ob → Option (DV × Objs)
  | .arr s rows => if off + n ≤ rows.length ∧ s = sz ∧ (a.1 = sz ∨ a.2 = []) then some (.int .i64 (min a.2.length n : Nat), objs.set o (some (.arr sz (rows.take off ++ a.2.take (min a.2.length n) ++ rows.drop (off + min a.2.length n))))) else none
  | _ => none
def copyV (sz : Nat) (objs : Objs) : DV → Option (Nat × List (List DV)) → Option (DV × Objs)
  | .own o off n, some a => (objs[o]?).bind fun x => x.bind (copyO sz o off n objs a)
  | _, _ => none
theorem rvl_copy (sz : Nat) (x y : Opd) : rvl E st (.copy sz x y) = copyV sz st.objs (x.ev E st) (rowsOf st (y.ev E st)) := by
  simp only [rvl, rval]
  generalize rowsOf st (y.ev E st) = a
  cases x.ev E st <;> cases a <;> try rfl
  rename_i o off n a
  obtain ⟨s2, new⟩ := a
  simp only [copyV]
  generalize st.objs[o]? = x
  rcases x with _ | _ | ob <;> try rfl
  cases ob <;> rfl
theorem copyV_own (sz : Nat) (objs : Objs) (o off n : Nat) (a : Nat × List (List DV)) : copyV sz objs (.own o off n) (some a) = (objs[o]?).bind fun x => x.bind (copyO sz o off n objs a) := nrfl _
theorem copyO_arr (sz o off n : Nat) (objs : Objs) (a : Nat × List (List DV)) (s : Nat) (rows : List (List DV)) : copyO sz o off n objs a (.arr s rows) = if off + n ≤ rows.length ∧ s = sz ∧ (a.1 = sz ∨ a.2 = []) then some (.int .i64 (min a.2.length n : Nat), objs.set o (some (.arr sz (rows.take off ++ a.2.take (min a.2.length n) ++ rows.drop (off + min a.2.length n))))) else none := nrfl _
end
def CallH (E : Prg) (f : Nat) (vals : List DV) (T : Objs) (K : DV → Objs → Prop) [Tg K] (_ : True := trivial) : Prop := CallK E f vals T K
theorem callV_H (E : Prg) (f : Nat) (as : List DV) (T : Objs) (L : DV → Objs → Prop) : callV E none false f as T L = CallH E f as T L := nrfl _
theorem tab_nil (f : Nat) (as : List DV) : tab [] f as = none := nrfl _
theorem resOf_nil (st : St) : resOf st [] = some (.tup []) := nrfl _
theorem vcB5 : type_of% (And.intro @callV_H <| And.intro @tab_nil <| @resOf_nil) := And.intro @callV_H <| And.intro @tab_nil <| @resOf_nil
theorem vcB4 : type_of% (And.intro @stV_inv <| And.intro @stV_eqP <| And.intro @rvl_eqP <| And.intro @nilP_ptr <| And.intro @nilP_rp <| And.intro @nilP_nil <| And.intro @stV_eqS <| And.intro @stV_copy <| And.intro @stV_mkfn <| And.intro @stV_mkIfc <| And.intro @stV_asrt <| And.intro @ot_fin <| And.intro @ot_fing <| And.intro @invV_some <| And.intro @calldV_clo <| And.intro @invOf_ifc <| And.intro @invOf_ifa <| And.intro @invRow_some <| And.intro @invRecv_self <| And.intro @invRecv_ptr <| And.intro @invRecv_rp <| And.intro @rvl_mkfn <| And.intro @rvl_mkIfc <| And.intro @mkIfcV_agg <| And.intro @mkIfcV_ptr <| And.intro @mkIfcV_rp <| And.intro @mkIfcV_int <| And.intro @mkIfcV_str <| And.intro @mkIfcV_own <| And.intro @mkIfcV_sl <| And.intro @rvl_asrt <| And.intro @asrtV_ifc <| And.intro @asrtV_ifa <| And.intro @rvl_eqS <| And.intro @eqsV_agg <| And.intro @eqC_nil <| And.intro @eqC_i <| And.intro @eqC_b <| And.intro @rvl_copy <| And.intro @copyV_own <| And.intro @copyO_arr <| And.intro @callV_p <| And.intro @app_p <| @spec_wp) :=
  (And.intro @stV_inv <| And.intro @stV_eqP <| And.intro @rvl_eqP <| And.intro @nilP_ptr <| And.intro @nilP_rp <| And.intro @nilP_nil <| And.intro @stV_eqS <| And.intro @stV_copy <| And.intro @stV_mkfn <| And.intro @stV_mkIfc <| And.intro @stV_asrt <| And.intro @ot_fin <| And.intro @ot_fing <| And.intro @invV_some <| And.intro @calldV_clo <| And.intro @invOf_ifc <| And.intro @invOf_ifa <| And.intro @invRow_some <| And.intro @invRecv_self <| And.intro @invRecv_ptr <| And.intro @invRecv_rp <| And.intro @rvl_mkfn <| And.intro @rvl_mkIfc <| And.intro @mkIfcV_agg <| And.intro @mkIfcV_ptr <| And.intro @mkIfcV_rp <| And.intro @mkIfcV_int <| And.intro @mkIfcV_str <| And.intro @mkIfcV_own <| And.intro @mkIfcV_sl <| And.intro @rvl_asrt <| And.intro @asrtV_ifc <| And.intro @asrtV_ifa <| And.intro @rvl_eqS <| And.intro @eqsV_agg <| And.intro @eqC_nil <| And.intro @eqC_i <| And.intro @eqC_b <| And.intro @rvl_copy <| And.intro @copyV_own <| And.intro @copyO_arr <| And.intro @callV_p <| And.intro @app_p <| @spec_wp)
end
def Trims (T T2 : Objs) : Prop := T2.length = T.length ∧ ∀ (k : Nat) (ob2 : Ob), T2[k]? = some (some ob2) → ∃ ob, T[k]? = some (some ob) ∧ (ob2 = ob ∨ (ob.cel ∧ ob2.cel)) ∧ ob2.sz = ob.sz ∧ ∃ m, ob2.rows = ob.rows.take m
theorem Trims.refl (T : Objs) : Trims T T := ⟨rfl, fun k ob h => ⟨ob, h, .inl rfl, rfl, ob.rows.length, by rw [List.take_length]⟩⟩
theorem Trims.arr {T : Objs} {q s : Nat} {rows : List (List DV)} (m : Nat) (h : T[q]? = some (some (.arr s rows))) : Trims T (T.set q (some (.arr s (rows.take m)))) := by
  have hlt : q < T.length := (List.getElem?_eq_some_iff.1 h).1
  refine ⟨by simp, fun k ob2 hk => ?_⟩
  by_cases e : q = k
  · subst e
    rw [List.getElem?_set_self hlt] at hk
    obtain rfl := sj (sj hk)
    exact ⟨_, h, .inr ⟨trivial, trivial⟩, rfl, m, rfl⟩
  · rw [List.getElem?_set_ne e] at hk
    exact ⟨ob2, hk, .inl rfl, rfl, ob2.rows.length, by rw [List.take_length]⟩

theorem tb_geti {α : Type} (T l : List α) (i : Nat) : (T ++ l)[T.length + i]? = l[i]? := by rw [List.getElem?_append_right (by omega)]; congr 1; omega
theorem tb_get0 {α : Type} (T l : List α) (a : α) : (T ++ a :: l)[T.length]? = some a := by simp
theorem tb_seti {α : Type} (T l : List α) (i : Nat) (y : α) : (T ++ l).set (T.length + i) y = T ++ l.set i y := by
  rw [List.set_append_right _ _ (by omega)]; congr 2; omega
theorem tb_set0 {α : Type} (T l : List α) (a y : α) : (T ++ a :: l).set T.length y = T ++ y :: l := by
  rw [List.set_append_right _ _ (Nat.le_refl _)]; simp
theorem tb_sgeti {α : Type} (T l : List α) (o i : Nat) (x : α) : (T.set o x ++ l)[T.length + i]? = l[i]? := by
  have := tb_geti (T.set o x) l i; rwa [List.length_set] at this
theorem tb_sget0 {α : Type} (T l : List α) (o : Nat) (x a : α) : (T.set o x ++ a :: l)[T.length]? = some a := by
  have := tb_get0 (T.set o x) l a; rwa [List.length_set] at this
theorem tb_sseti {α : Type} (T l : List α) (o i : Nat) (x y : α) : (T.set o x ++ l).set (T.length + i) y = T.set o x ++ l.set i y := by
  have := tb_seti (T.set o x) l i y; rwa [List.length_set] at this
theorem tb_sset0 {α : Type} (T l : List α) (o : Nat) (x a y : α) : (T.set o x ++ a :: l).set T.length y = T.set o x ++ y :: l := by
  have := tb_set0 (T.set o x) l a y; rwa [List.length_set] at this
theorem tb_lt {α : Type} {T : List α} {q : Nat} {x : α} (h : T[q]? = some x) : q < T.length := (List.getElem?_eq_some_iff.1 h).1
theorem tb_f {α : Type} {T : List α} {q : Nat} {x : α} (h : T[q]? = some x) (l : List α) : (T ++ l)[q]? = some x := by
  rw [List.getElem?_append_left (tb_lt h)]; exact h
theorem tb_sf {α : Type} {T : List α} {q : Nat} {x : α} (h : T[q]? = some x) (l : List α) (y : α) : (T ++ l).set q y = T.set q y ++ l := List.set_append_left _ _ (tb_lt h)
theorem tb_ss {α : Type} {T : List α} {q : Nat} {x : α} (h : T[q]? = some x) (y : α) : (T.set q y)[q]? = some y := List.getElem?_set_self (tb_lt h)
theorem tb_ssl {α : Type} {T : List α} {q : Nat} {x : α} (h : T[q]? = some x) (y : α) (l : List α) : (T.set q y ++ l)[q]? = some y := tb_f (tb_ss h y) l
theorem tb_sfl {α : Type} {T : List α} {q : Nat} {x : α} (h : T[q]? = some x) (z y : α) (l : List α) : (T.set q z ++ l).set q y = T.set q y ++ l := by
  rw [tb_sf (tb_ss h z), List.set_set]
theorem tb_ne {α : Type} {T : List α} {k j : Nat} {x : α} (h : T[k]? = some x) (y : α) (hne : k ≠ j) : (T.set j y)[k]? = some x := by rw [List.getElem?_set_ne (Ne.symm hne)]; exact h
def idO (E : Prg) (st : St) (p : Opd) : Option Opd → Prop
  | none => True
  | some y => idNe (Opd.ev E st y) (Opd.ev E st p)
theorem idO_none (E : Prg) (st : St) (p : Opd) : idO E st p none = True := nrfl _
theorem idO_some (E : Prg) (st : St) (p y : Opd) : idO E st p (some y) = idNe (Opd.ev E st y) (Opd.ev E st p) := nrfl _
theorem clearOf_slice (E : Prg) (st : St) (sz : Nat) (x p : Opd) (lo hi mx : Option Opd) : clearOf E st (.slice sz x lo hi mx) p = (idNe (Opd.ev E st x) (Opd.ev E st p) ∧ idO E st p lo ∧ idO E st p hi ∧ idO E st p mx) := by
  cases lo <;> cases hi <;> cases mx <;> simp [clearOf, ROp.opds, optOpd, idNe, idO]
theorem tb_clear : type_of% (And.intro @idO_none <| And.intro @idO_some <| @clearOf_slice) := And.intro @idO_none <| And.intro @idO_some <| @clearOf_slice
theorem tb_at : type_of% (And.intro @tb_clear <| And.intro @tb_geti <| And.intro @tb_get0 <| And.intro @tb_seti <| And.intro @tb_set0 <| And.intro @tb_sgeti <| And.intro @tb_sget0 <| And.intro @tb_sseti <| @tb_sset0) :=
  And.intro @tb_clear <| And.intro @tb_geti <| And.intro @tb_get0 <| And.intro @tb_seti <| And.intro @tb_set0 <| And.intro @tb_sgeti <| And.intro @tb_sget0 <| And.intro @tb_sseti <| @tb_sset0
theorem tb_all {T : Objs} {q : Nat} {x : Option Ob} (h : T[q]? = some x) : type_of% (And.intro h <| And.intro (tb_f h) <| And.intro (tb_sf h) <| And.intro (tb_ss h) <| And.intro (tb_ssl h) <| tb_sfl h) :=
  And.intro h <| And.intro (tb_f h) <| And.intro (tb_sf h) <| And.intro (tb_ss h) <| And.intro (tb_ssl h) <| tb_sfl h
def Keep (T T' : Objs) (ids : List Nat) : Prop := T.length ≤ T'.length ∧ ∀ (k : Nat) ob, k ∉ ids → T[k]? = some (some ob) → T'[k]? = some (some ob)
theorem Keep.refl (T : Objs) (ids : List Nat) : Keep T T ids := ⟨Nat.le_refl _, fun _ _ _ h => h⟩
theorem Keep.app (T l : Objs) (ids : List Nat) : Keep T (T ++ l) ids := ⟨by simp, fun _ _ _ h => tb_f h l⟩
theorem Keep.trans {A B C : Objs} {i j k : List Nat} (h1 : Keep A B i) (h2 : Keep B C j) (hi : ∀ x ∈ i, x ∈ k) (hj : ∀ x ∈ j, x ∈ k ∨ A.length ≤ x) : Keep A C k :=
  ⟨Nat.le_trans h1.1 h2.1, fun x ob hx ha => h2.2 x ob (fun hm => by
    rcases hj x hm with h | h
    · exact hx h
    · have := tb_lt ha; omega) (h1.2 x ob (fun hm => hx (hi x hm)) ha)⟩
theorem Keep.new {A B C : Objs} {j : List Nat} (h1 : Keep A B []) (h2 : Keep B C j) (hj : ∀ x ∈ j, A.length ≤ x) : Keep A C [] := h1.trans h2 (by simp) fun x hx => .inr (hj x hx)
theorem Keep.newApp {A B : Objs} (h1 : Keep A B []) (l : Objs) : Keep A (B ++ l) [] := h1.trans (Keep.app B l []) (by simp) (by simp)
theorem Keep.at {A B : Objs} {i : List Nat} (h : Keep A B i) {k : Nat} {ob : Ob} (ha : A[k]? = some (some ob)) (hk : k ∉ i) : B[k]? = some (some ob) := h.2 k ob hk ha
section
open Go.RowKit Go.ChangeShapes Go.WideShapes
theorem confA_int {k : IntKind} {d : DV} (h : ConfA (false, [.int k]) d) : ∃ n, d = .int k n ∧ k.min ≤ n ∧ n ≤ k.max := by
  obtain ⟨c, h1, h2⟩ := h
  obtain rfl := (List.cons.inj h1).1
  cases h2 with
  | int k n a b => exact ⟨n, rfl, a, b⟩
section
variable {H : Type} {enc : TypeId × Value → H} {P : Program} {w : World} {base : Nat} {spare : Nat → Bool} {held : Bool}
theorem CallK.g {E : Prg} {f : Nat} {args : List DV} {K : DV → Objs → Prop} {R : DV → Prop} (h : CallK E f args [] K) (hK : ∀ r T, K r T → R r) : GCalls E f args [] fun r _ => R r := by
  obtain ⟨T1, Q, h1, h2, h3, h4⟩ := h
  have : T1 = [] := List.length_eq_zero_iff.1 h1
  subst this
  intro G w vs g1 g2 g3 g4
  refine (h3 G w vs g1 g2 g3 g4).mono fun e w' ⟨v, r, T', G', a, b, c, d⟩ => ⟨v, r, T', G', a, ?_, c, d⟩
  obtain ⟨T2, _, k⟩ := h4 r T' b (Nat.zero_le _)
  exact hK r T2 k
theorem law_contractG {E : Prg} {f : FuncId} {fn : Func} {s : ChangeSpec} {tb : TypeId} {k : Nat} {l : List (Bool × List CS)} {apart fresh handsOn : Bool} (hres : fn.resultTypes = #[tb]) (hb : E.P.underlying tb = some .bool)
    (hs : ∀ ds : List (DataW H), ds.length = k → s.fn H ds = { results := [.lit (.bool true)], args := ds }) (hsv : s.vars = []) (hk : fn.params.size = k) (hsh : asAll E.P fn.params.toList = some l)
    (hG : GlobOk E (Gh.all w)) (hlaw : ∀ dv, ConfL l dv → GCalls E f dv [] fun r _ => r = .bool true) {b0 : Nat} {args : Array Value} {ds gs : List (DataW H)} {before : List MemPlace}
    (hval : ∀ (j : Nat) t v, fn.params[j]? = some t → args[j]? = some v → Value.okWide E.P w .any b0 t v) (hW : DataW.Whole enc E.P fn.params.toList s.vars apart w args.toList ds gs before) :
    Calls E.P f args w fun e W' => ∃ v, e = .returned v ∧ s.post enc E.P fn apart fresh handsOn false w args v W' := by
  have hW' := hW
  obtain ⟨p, q, hA, hV, rfl, hfz, hnd⟩ := hW
  obtain ⟨dv, hc, hl, hrel⟩ := args_rel hsh (fun j t v ht hv => hval j t v (by simpa using ht) (by simpa using hv)) hA
  rw [hsv] at hV
  obtain ⟨rfl, rfl⟩ : gs = [] ∧ q = [] := by
    cases gs with
    | nil => exact ⟨rfl, hV⟩
    | cons => exact hV.elim
  have hdl : ds.length = k := by rw [trodAll_len hA]; simpa using hk
  have h := hlaw dv hc (Gh.all w) w args hG (Gh.all_heap w) (by simpa using hl.symm) (fun i d hd => by
    have := hrel i d hd
    simpa [Array.getD_eq_getD_getElem?, List.getD_eq_getElem?_getD] using this)
  refine h.mono fun e W' ⟨v, r, T', G', he, hr, _, hrv, hheap, hfrm⟩ => ?_
  subst he hr
  have hno : ∀ a, ¬ cellsOf (Gh.all w) [] a := fun a ⟨k, ob, p, m, h1, _⟩ => by simp at h1
  have hblk : ∀ b : Nat, b < w.heap.size → W'.heap[b]? = w.heap[b]? := fun b hb => hfrm.blk b hb fun o => hno _
  have hv : v = .bool true := by cases hrv; rfl
  subst hv
  refine ⟨_, rfl, ?_⟩
  rw [List.append_nil] at hfz hnd hW'
  have hsfn := hs ds hdl
  have hlt : ∀ x ∈ p, x.block < w.heap.size := hW'.lt
  have hres' : ∀ (b : Nat) (sp : Nat → Bool) (hd : Bool), DataW.TrodAll enc E.P W' b sp hd fn.resultTypes.toList ((Value.bool true).resultList fn.resultTypes.size) [.lit (.bool true)] [] := fun b sp hd => by
    rw [hres]
    exact trodAll_cons_mk (shut_bool hb _) trodAll_mk0
  refine ⟨ds, [], p, [], p, [], hW', ?_, ?_, ?_, ⟨hfrm.os, hfrm.output, fun i hi => ?_⟩, fun h => by cases h⟩
  · rw [List.append_nil, hsfn]; exact hres' _ _ _
  · rw [List.append_nil, hsfn]; exact trodAll_again hblk hsh hA fun x hx => by simpa using hlt x hx
  · rw [List.append_nil, hsfn, hsv]; rfl
  · rw [hblk i hi]
    split
    · rename_i h1 h2; rw [h1] at h2; obtain ⟨rfl, rfl, rfl⟩ := Obj.cells.injEq .. ▸ sj h2; exact ⟨rfl, rfl, rfl, fun _ _ => rfl⟩
    · rename_i h1 h2; rw [h1] at h2; obtain ⟨rfl, rfl⟩ := Obj.map.injEq .. ▸ sj h2; exact Or.inr ⟨rfl, rfl⟩
    · rfl
end
end
structure WkS (st st' : St) : Prop where
  env : ∀ t, st'.get t = st.get t
  len : st'.objs.length = st.objs.length
  obj : ∀ (k : Nat) ob', st'.objs[k]? = some (some ob') → ∃ ob, st.objs[k]? = some (some ob) ∧ frOb wk0 ob ob'
theorem RelG.wkS {E : Prg} {C : Ctx} {G : Gh} {st st' : St} {a : Act} {w : World} (h : RelG E C G st a w) (hF : WkS st st') : RelG E C G st' a w := by
  refine ⟨fun t => by rw [hF.env t]; exact h.env t, h.num, h.defs, ⟨?_, ?_, ?_, h.heap.rdv, ?_⟩, ⟨h.frm.os, h.frm.tape, h.frm.output, h.frm.size, h.frm.blk, h.frm.cell, h.frm.frz, ?_, h.frm.rdn, h.frm.le, h.frm.mko⟩, h.glob⟩
  · intro k q hq
    rw [hF.len]; exact h.heap.pls k q hq
  · intro k r hk
    obtain ⟨r', hk', hfr⟩ := hF.obj k r hk
    obtain ⟨q, hq, hlq⟩ := h.heap.live k r' hk'
    exact ⟨q, hq, frOb_live (.refl _) (fun c c' v hc r => wk0_rel hc r) hfr hlq⟩
  · intro k k' r r' q q' m m' hk hk' hne hq hq' hm hm'
    obtain ⟨s, h1, _⟩ := hF.obj k r hk
    obtain ⟨s', h1', _⟩ := hF.obj k' r' hk'
    exact h.heap.sep k k' s s' q q' m m' h1 h1' hne hq hq' hm hm'
  · intro k r q m hk hq hm
    obtain ⟨s, h1, _⟩ := hF.obj k r hk
    exact h.heap.rds k s q m h1 hq hm
  · intro k r q m hk hq hm
    obtain ⟨s, h1, _⟩ := hF.obj k r hk
    exact h.frm.mine k s q m h1 hq hm
inductive Frzs : St → St → Prop where
  | refl (st : St) : Frzs st st
  | frz {a b c : St} (o sz : Nat) (rows : List (List DV)) : FrzS o sz rows a b → Frzs b c → Frzs a c
  | wk {a b c : St} : a.wk b → Frzs b c → Frzs a c
  | cell {a b c : St} : WkS a b → Frzs b c → Frzs a c
theorem Frzs.trans {a b c : St} (h : Frzs a b) (k : Frzs b c) : Frzs a c := by
  induction h with
  | refl => exact k
  | frz o sz rows h1 _ ih => exact .frz o sz rows h1 (ih k)
  | wk h1 _ ih => exact .wk h1 (ih k)
  | cell h1 _ ih => exact .cell h1 (ih k)
theorem RelSt.frzs {E : Prg} {C : Ctx} {a : Act} {w : World} {st st' : St} (h : RelSt E C st a w) (hF : Frzs st st') : RelSt E C st' a w := by
  induction hF with
  | refl => exact h
  | frz o sz rows h1 _ ih =>
    obtain ⟨G, h⟩ := h
    exact ih (h.frzS h1)
  | wk h1 _ ih => exact ih (h.wk h1)
  | cell h1 _ ih =>
    obtain ⟨G, h⟩ := h
    exact ih ⟨G, h.wkS h1⟩
theorem Frzs.len {a b : St} (h : Frzs a b) : b.objs.length = a.objs.length := by
  induction h with
  | refl => rfl
  | frz o sz rows h1 _ ih => rw [ih, h1.len]
  | wk h1 _ ih => rw [ih]; exact (objsWk_len h1.2).1
  | cell h1 _ ih => rw [ih]; exact h1.len
theorem GCalls.frzs {E : Prg} {f : Nat} {args : List DV} {T : Objs} {R : DV → Objs → Prop} (h : GCalls E f args T fun d T' => ∃ d' T'', Frzs ⟨[(0, d)], T'⟩ ⟨[(0, d')], T''⟩ ∧ R d' T'') : GCalls E f args T R := by
  intro G w vs g1 g2 g3 g4
  refine Calls.mono (h G w vs g1 g2 g3 g4) fun e w' ⟨v, r, T', G', a, ⟨d', T'', hF, hR⟩, hl, hrel, hh, hf⟩ => ?_
  have hr : RelSt E ⟨w, G, cellsOf G T, 1⟩ ⟨[(0, r)], T'⟩ ⟨#[v], []⟩ w' := by
    refine ⟨G', fun t => ?_, rfl, rfl, hh, hf.ctx, fun g row hg => (g1 g row hg).mono hf.le⟩
    by_cases e : t = 0
    · subst e; exact hrel
    · have : St.get ⟨[(0, r)], T'⟩ t = .undef := by
        simp only [St.get, St.look]
        rw [if_neg (fun h => e h.symm)]
      rw [this]; exact .undef _
  obtain ⟨G2, h2⟩ := hr.frzs hF
  exact ⟨v, d', T'', G2, a, hR, by rw [show T''.length = T'.length from hF.len]; exact hl, h2.env 0, h2.heap, h2.frm.ctx⟩
theorem CallK.of_fnF {E : Prg} {F : FTab} (hF : FOk E F) {f : Nat} {ann : List Ann} {rf : RFn} {args : List DV} {T : Objs} {K : DV → Objs → Prop} (hc : compFn E.P ann f = some rf) (hargs : args.length ≤ rf.n)
    (h : rf.code.wp E F rf.n (finQ rf.res fun d T' => T.length ≤ T'.length ∧ ∃ d' T'', Frzs ⟨[(0, d)], T'⟩ ⟨[(0, d')], T''⟩ ∧ K d' T'') ⟨initEnv 0 args, T⟩) : CallK E f args T K :=
  CallK.all (GCalls.frzs (GCalls.of_fn hF hc hargs h))
theorem look_single {T : Objs} {d : DV} (t : Nat) : St.get ⟨[(0, d)], T⟩ t = if t = 0 then d else .undef := by
  simp only [St.get, St.look]
  by_cases h : t = 0
  · subst h; simp
  · rw [if_neg h, if_neg (fun e => h e.symm)]
theorem Frzs.own {T : Objs} {q off n sz : Nat} {rows : List (List DV)} (h : T[q]? = some (some (.arr sz rows))) (hn : off + n ≤ rows.length) : Frzs ⟨[(0, .own q off n)], T⟩ ⟨[(0, .sl sz ((rows.drop off).take n) .any)], T.set q none⟩ := by
  refine .frz q sz rows ⟨h, fun t => ?_, by simp, fun k ob' hk => ?_⟩ (.refl _)
  · rw [look_single, look_single]
    split
    · right; simp [DV.frzT, DV.frzA, DV.frz0, hn]
    · exact .inl rfl
  · rw [getElem?_set] at hk
    by_cases e : q = k
    · rw [if_pos e] at hk; split at hk <;> simp at hk
    · rw [if_neg e] at hk; exact ⟨fun e' => e e'.symm, ob', hk, frOb.refl (fr0.refl _ _ _) _⟩
theorem Frzs.inner {env : List (Nat × DV)} {T : Objs} {p q s sz : Nat} {r rows rows' : List (List DV)} (hp : T[p]? = some (some (.arr s r))) (hq : T[q]? = some (some (.arr sz rows))) (hne : p ≠ q)
    (hr : rows'.length = rows.length ∧ ∀ (i : Nat) row', rows'[i]? = some row' → ∃ row, rows[i]? = some row ∧ frRow (fr0 p s r) row row') : Frzs ⟨env, T⟩ ⟨env, (T.set p none).set q (some (.arr sz rows'))⟩ := by
  have hlt := tb_lt hq
  refine .frz (b := ⟨env, (T.set p none).set q (some (.arr sz rows'))⟩) p s r ⟨hp, fun t => .inl rfl, by simp, fun k ob' hk => ?_⟩ (.refl _)
  simp only at hk
  rw [getElem?_set] at hk
  by_cases e : q = k
  · subst e
    rw [if_pos rfl, if_pos (by simpa using hlt)] at hk
    obtain rfl : Ob.arr sz rows' = ob' := by simpa using hk
    exact ⟨fun e => hne e.symm, _, hq, rfl, hr.1, hr.2⟩
  · rw [if_neg e, getElem?_set] at hk
    by_cases e2 : p = k
    · rw [if_pos e2] at hk; split at hk <;> simp at hk
    · rw [if_neg e2] at hk; exact ⟨fun e' => e2 e'.symm, ob', hk, frOb.refl (fr0.refl _ _ _) _⟩
theorem wk0_self (d : DV) : wk0 d d := by cases d <;> simp [wk0]
theorem Frzs.rows {env : List (Nat × DV)} {T : Objs} {q sz : Nat} {rows rows' : List (List DV)} (hq : T[q]? = some (some (.arr sz rows)))
    (hr : rows'.length = rows.length ∧ ∀ (i : Nat) row', rows'[i]? = some row' → ∃ row, rows[i]? = some row ∧ frRow wk0 row row') : Frzs ⟨env, T⟩ ⟨env, T.set q (some (.arr sz rows'))⟩ := by
  have hlt := tb_lt hq
  refine .cell (b := ⟨env, T.set q (some (.arr sz rows'))⟩) ⟨fun t => rfl, by simp, fun k ob' hk => ?_⟩ (.refl _)
  simp only at hk
  rw [getElem?_set] at hk
  by_cases e : q = k
  · subst e
    rw [if_pos rfl, if_pos hlt] at hk
    obtain rfl : Ob.arr sz rows' = ob' := by simpa using hk
    exact ⟨_, hq, rfl, hr.1, hr.2⟩
  · rw [if_neg e] at hk; exact ⟨ob', hk, frOb.refl wk0_self _⟩
theorem LoopWp.invF {E : Prg} {F : FTab} (hF : FOk E F) {n : Nat} {b : RC} {Q : Exit → St → Prop} {st : St} {σ : Type} (S : σ → St) (I : σ → Prop) (μ : σ → Nat) (s0 : σ) (h0 : I s0) (hw : Frzs st (S s0))
    (round : ∀ s, I s → b.wp E F n (fun e st' => match e with
      | .normal => ∃ s', Frzs st' (S s') ∧ I s' ∧ μ s' < μ s
      | e => Q e st') (S s)) : LoopWp E n b Q st := by
  intro c ann hc C a w hn hr
  let J : Act → World → Nat → Prop := fun a w m => ∃ s, I s ∧ RelSt E C (S s) a w ∧ μ s = m
  have hex : ∀ a w, (∃ m, J a w m) → ∃ m, J a w m ∧ ∀ k, J a w k → m ≤ k := fun a w ⟨m, hm⟩ => exists_least _ m hm
  open Classical in
  let f : Act → World → Nat := fun a w => if h : ∃ m, J a w m then Classical.choose (hex a w h) else 0
  have hf : ∀ a w, (∃ m, J a w m) → J a w (f a w) ∧ ∀ k, J a w k → f a w ≤ k := fun a w h => by
    simp only [f, dif_pos h]
    exact Classical.choose_spec (hex a w h)
  refine wp_loop (fun a w => ∃ m, J a w m) f ⟨μ s0, s0, h0, hr.frzs hw, rfl⟩ (fun a w hJ => ?_)
  obtain ⟨⟨s, hI, hrs, hm⟩, hmin⟩ := hf a w hJ
  refine Code.wp_mono ?_ (RC.sound hF c ann b _ (S s) hc (round s hI) C a w hn hrs)
  rintro e a' w' ⟨st', h1, h2⟩
  cases e with
  | normal =>
    obtain ⟨s', hw', hI', hlt⟩ := h1
    have hJ' : J a' w' (μ s') := ⟨s', hI', h2.frzs hw', rfl⟩
    refine ⟨⟨_, hJ'⟩, ?_⟩
    have := (hf a' w' ⟨_, hJ'⟩).2 _ hJ'
    omega
  | _ => exact ⟨st', h1, h2⟩
structure FnWp (E : Prg) (F : FTab) (rf : RFn) (args : List DV) (T : Objs) (Post : DV → Objs → Prop) : Prop where
  w : rf.code.wp E F rf.n (finQ rf.res Post) ⟨initEnv 0 args, T⟩
theorem FnWp.k {E : Prg} {F : FTab} (hF : FOk E F) {f : Nat} {ann : List Ann} {rf : RFn} {args : List DV} {T : Objs} {K : DV → Objs → Prop} (hc : compFn E.P ann f = some rf) (hargs : args.length ≤ rf.n)
    (h : FnWp E F rf args T fun d T' => T.length ≤ T'.length ∧ K d T') : CallK E f args T K := CallK.of_fn hF hc hargs h.w
theorem vcS : type_of% (And.intro @vcB1 <| And.intro @vcB2 <| And.intro @vcB3 <| And.intro @vcB4 <| And.intro @vcB5 <| And.intro @vcR <| And.intro @if_true.{1} <| And.intro @if_false.{1} <| And.intro @implies_true.{1} <| And.intro @ne_eq.{1} <| And.intro @exists_eq_left.{1} <| And.intro @exists_eq_left'.{1} <| @Function.comp_apply.{1, 1, 1}) :=
  And.intro @vcB1 <| And.intro @vcB2 <| And.intro @vcB3 <| And.intro @vcB4 <| And.intro @vcB5 <| And.intro @vcR <| And.intro @if_true.{1} <| And.intro @if_false.{1} <| And.intro @implies_true.{1} <| And.intro @ne_eq.{1} <| And.intro @exists_eq_left.{1} <| And.intro @exists_eq_left'.{1} <| @Function.comp_apply.{1, 1, 1}
section
section
variable {E : Prg} {F : FTab} {K : St → Prop} {st : St} {dst : Option Nat} {z : Bool}
theorem stV_mkmap (dr : Bool) : stV E F dr .mkmap dst z st K = bindO (rvl E st .mkmap) fun p => goSt (nx st p z dst) K := stV_op E F K st dst .mkmap z dr rfl
theorem stV_mset (dr : Bool) (kd : Option IntKind) (m k x : Opd) : stV E F dr (.mset kd m k x) dst z st K = bindO (rvl E st (.mset kd m k x)) fun p => goSt (nx st p z dst) K := stV_op E F K st dst (.mset kd m k x) z dr rfl
theorem stV_mget (dr : Bool) (kd : Option IntKind) (ok : Bool) (d : DV) (m k : Opd) : stV E F dr (.mget kd ok d m k) dst z st K = bindO (rvl E st (.mget kd ok d m k)) fun p => goSt (nx st p z dst) K := stV_op E F K st dst (.mget kd ok d m k) z dr rfl
end
def mapE : Option (Option Ob) → Option (List (DV × DV))
  | some (some (.map es)) => some es
  | _ => none
def msetV (T : Objs) (kd : Option IntKind) (m k x : DV) : Option (DV × Objs) :=
  match m with
  | .mp o => (mapE T[o]?).bind fun es => if keyIs kd k = true then (mins k x es).map fun es' => (.undef, T.set o (some (.map es'))) else none
  | _ => none
def mgetR (T : Objs) (kd : Option IntKind) (ok : Bool) (z m k : DV) : Option DV :=
  match m with
  | .mp o => (mapE T[o]?).bind fun es => if keyIs kd k = true then (mfind k es).map (mgetV ok z) else none
  | _ => none
theorem rvl_mkmap {E : Prg} {st : St} : rvl E st .mkmap = some (.mp st.objs.length, st.objs ++ [some (.map [])]) := nrfl _
theorem rvl_mset {E : Prg} {st : St} (kd : Option IntKind) (m k x : Opd) : rvl E st (.mset kd m k x) = msetV st.objs kd (m.ev E st) (k.ev E st) (x.ev E st) := by
  simp only [rvl, rval]
  generalize m.ev E st = d
  unfold msetV
  cases d <;> try rfl
  rename_i o
  simp only
  cases st.objs[o]? with
  | none => rfl
  | some y => cases y with
    | none => rfl
    | some ob => cases ob <;> rfl
theorem rvl_mget {E : Prg} {st : St} (kd : Option IntKind) (ok : Bool) (z : DV) (m k : Opd) : rvl E st (.mget kd ok z m k) = (mgetR st.objs kd ok z (m.ev E st) (k.ev E st)).map (·, st.objs) := by
  simp only [rvl, rval]
  generalize m.ev E st = d
  unfold mgetR
  cases d <;> try rfl
  rename_i o
  simp only
  cases st.objs[o]? with
  | none => rfl
  | some y => cases y with
    | none => rfl
    | some ob =>
      cases ob with
      | box => rfl
      | arr => rfl
      | map es =>
        simp only [mapE, Option.bind_some]
        split
        · rw [Option.map_map]; rfl
        · rfl
theorem msetV_str {T : Objs} {o : Nat} {es es' : List (DV × DV)} {s : List UInt8} {x : DV} (h : T[o]? = some (some (.map es))) (h2 : mins (.str s) x es = some es') : msetV T none (.mp o) (.str s) x = some (.undef, T.set o (some (.map es'))) := by
  simp [msetV, h, mapE, keyIs, h2]
theorem mgetR_str {T : Objs} {o : Nat} {ok : Bool} {es : List (DV × DV)} {s : List UInt8} {z : DV} {r : Option DV} (h : T[o]? = some (some (.map es))) (h2 : mfind (.str s) es = some r) : mgetR T none ok z (.mp o) (.str s) = some (mgetV ok z r) := by
  simp [mgetR, h, mapE, keyIs, h2]
theorem mgetV_ok (z : DV) (r : Option DV) : mgetV true z r = .tup [r.getD z, .bool r.isSome] := nrfl _
theorem mgetV_no (z : DV) (r : Option DV) : mgetV false z r = r.getD z := nrfl _
theorem one_mp (o : Nat) : (DV.mp o).one = true := nrfl _
theorem cells_mp (o : Nat) : (DV.mp o).cells = some [.mp o] := nrfl _
theorem vcM : type_of% (And.intro @stV_mkmap <| And.intro @stV_mset <| And.intro @stV_mget <| And.intro @rvl_mkmap <| And.intro @rvl_mset <| And.intro @rvl_mget <| And.intro @mgetV_ok <| And.intro @mgetV_no <| And.intro @one_mp <| And.intro @cells_mp <| And.intro @Option.getD_some.{0} <| @Option.getD_none.{0}) :=
  And.intro @stV_mkmap <| And.intro @stV_mset <| And.intro @stV_mget <| And.intro @rvl_mkmap <| And.intro @rvl_mset <| And.intro @rvl_mget <| And.intro @mgetV_ok <| And.intro @mgetV_no <| And.intro @one_mp <| And.intro @cells_mp <| And.intro @Option.getD_some.{0} <| @Option.getD_none.{0}
def strE (L : List (List UInt8 × DV)) : List (DV × DV) := L.map fun p => (.str p.1, p.2)
def putL (k : List UInt8) (d : DV) : List (List UInt8 × DV) → List (List UInt8 × DV)
  | [] => [(k, d)]
  | p :: l => if k = p.1 then (k, d) :: l else p :: putL k d l
def getL (k : List UInt8) : List (List UInt8 × DV) → Option DV
  | [] => none
  | p :: l => if k = p.1 then some p.2 else getL k l
theorem mins_strE (k : List UInt8) (d : DV) : ∀ L : List (List UInt8 × DV), mins (.str k) d (strE L) = some (strE (putL k d L))
  | [] => rfl
  | p :: l => by
    have ih := mins_strE k d l
    unfold strE at ih
    simp only [strE, List.map_cons, mins, keq, putL]
    by_cases h : k = p.1
    · subst h; simp
    · rw [if_neg h]
      have : (k == p.1) = false := by simpa using h
      rw [this]
      simp [ih]
theorem mfind_strE (k : List UInt8) : ∀ L : List (List UInt8 × DV), mfind (.str k) (strE L) = some (getL k L)
  | [] => rfl
  | p :: l => by
    have ih := mfind_strE k l
    unfold strE at ih
    simp only [strE, List.map_cons, mfind, keq, getL]
    by_cases h : k = p.1
    · subst h; simp
    · rw [if_neg h]
      have : (k == p.1) = false := by simpa using h
      rw [this]
      exact ih
theorem getL_putL (k j : List UInt8) (d : DV) : ∀ L : List (List UInt8 × DV), getL j (putL k d L) = if j = k then some d else getL j L
  | [] => by simp [putL, getL]
  | p :: l => by
    unfold putL
    by_cases h : k = p.1
    · rw [if_pos h]
      simp only [getL]
      by_cases h2 : j = k
      · simp [h2]
      · rw [if_neg h2, if_neg h2, if_neg (fun e => h2 (e.trans h.symm))]
    · rw [if_neg h]
      simp only [getL, getL_putL k j d l]
      by_cases h2 : j = p.1
      · rw [if_pos h2, if_pos h2, if_neg (fun e => h (e.symm.trans h2))]
      · rw [if_neg h2, if_neg h2]
end
end Go.Proofs.YtdimdjcnkmkbjaaDoor
