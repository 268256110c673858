/- Loops whose objects are named anew at each round's head; a nil slice as an object of one's own. -/
import Derived.Test.YtaopaongpoecoaaAb26
set_option linter.unusedVariables false
set_option linter.unusedSimpArgs false
namespace Go.Proofs.Ytaopaongpoecoaa
open Go.RowKit
def addId (a : Nat) : List Nat → List Nat
  | [] => [a]
  | b :: l => if a = b then b :: l else b :: addId a l
def addIds : List Nat → List Nat → List Nat
  | [], acc => acc
  | a :: l, acc => addIds l (addId a acc)
def idsE : List (Nat × DV) → List Nat → List Nat
  | [], acc => acc
  | (_, d) :: l, acc => idsE l (addIds (idsT d) acc)
def canE (m : Nat) (ids : List Nat) : List (Nat × DV) → List (Nat × DV)
  | [] => []
  | (t, d) :: l => (t, canT m ids d) :: canE m ids l
/-- The objects that boxes name. -/
def boxIds : Option (Option Ob) → List Nat → List Nat
  | some (some (.box cs)), acc => addIds (cs.flatMap ids0) acc
  | _, acc => acc
def closeB (T : Objs) : List Nat → List Nat → List Nat
  | [], acc => acc
  | i :: l, acc => closeB T l (boxIds T[i]? acc)
def canOb (m : Nat) (ids : List Nat) : Ob → Ob
  | .box cs => .box (cs.map (can0 m ids))
  | ob => ob
def inL (a : Nat) : List Nat → Prop
  | [] => False
  | b :: l => a = b ∨ inL a l
theorem inL_mem {a : Nat} : ∀ {l : List Nat}, inL a l → a ∈ l
  | b :: l, h => by
    rcases h with rfl | h
    · simp
    · exact List.mem_cons_of_mem _ (inL_mem h)
def allIn (all : List Nat) : List Nat → Prop
  | [] => True
  | a :: l => inL a all ∧ allIn all l
theorem allIn_mem {all : List Nat} : ∀ {l : List Nat}, allIn all l → ∀ a ∈ l, a ∈ all
  | b :: l, h, a, ha => by
    rcases List.mem_cons.1 ha with rfl | ha
    · exact inL_mem h.1
    · exact allIn_mem h.2 a ha
def obIds : Ob → List Nat
  | .box cs => cs.flatMap ids0
  | _ => []
def canGo (T : Objs) (all : List Nat) : List Nat → (Objs → Prop) → Prop
  | [], k => k []
  | i :: l, k => bindO T[i]? fun x => bindO x fun ob => allIn all (obIds ob) ∧ canGo T all l fun os => k (some (canOb T.length all ob) :: os)
def canI (T : Objs) (ids : List Nat) (e : List (Nat × DV)) (K : Nat → St → Prop) : Prop := canGo T ids ids fun os => K T.length ⟨canE T.length ids e, List.replicate T.length none ++ os⟩
/-- A state with its objects named anew: in the order of its temporaries, then those that their boxes name. -/
def canS (st : St) (K : Nat → St → Prop) : Prop := canI st.objs (closeB st.objs (idsE st.env []) (idsE st.env [])) st.env K
theorem mem_addId {a x : Nat} : ∀ {l : List Nat}, x ∈ addId a l ↔ x = a ∨ x ∈ l
  | [] => by simp [addId]
  | b :: l => by
    simp only [addId]
    split
    · rename_i h; subst h; simp
    · rw [List.mem_cons, mem_addId (l := l), List.mem_cons]; grind
theorem nodup_addId {a : Nat} : ∀ {l : List Nat}, l.Nodup → (addId a l).Nodup
  | [], _ => by simp [addId]
  | b :: l, h => by
    simp only [addId]
    split
    · exact h
    · rename_i hab
      have h2 := List.nodup_cons.1 h
      refine List.nodup_cons.2 ⟨fun hm => ?_, nodup_addId h2.2⟩
      rcases mem_addId.1 hm with e | e
      · exact hab e.symm
      · exact h2.1 e
theorem mem_addIds {x : Nat} : ∀ {l acc : List Nat}, x ∈ addIds l acc ↔ x ∈ l ∨ x ∈ acc
  | [], acc => by simp [addIds]
  | a :: l, acc => by
    simp only [addIds]
    rw [mem_addIds (l := l), mem_addId, List.mem_cons]; grind
theorem nodup_addIds : ∀ {l acc : List Nat}, acc.Nodup → (addIds l acc).Nodup
  | [], acc, h => h
  | a :: l, acc, h => nodup_addIds (l := l) (nodup_addId h)
theorem mem_idsE {x : Nat} : ∀ {e : List (Nat × DV)} {acc : List Nat}, x ∈ idsE e acc ↔ (∃ y ∈ e, x ∈ idsT y.2) ∨ x ∈ acc
  | [], acc => by simp [idsE]
  | (t, d) :: e, acc => by
    simp only [idsE]
    rw [mem_idsE (e := e), mem_addIds]
    simp only [List.mem_cons]
    grind
theorem nodup_idsE : ∀ {e : List (Nat × DV)} {acc : List Nat}, acc.Nodup → (idsE e acc).Nodup
  | [], acc, h => h
  | (t, d) :: e, acc, h => nodup_idsE (e := e) (nodup_addIds h)
theorem mem_boxIds {x : Nat} {o : Option (Option Ob)} {acc : List Nat} (h : x ∈ acc) : x ∈ boxIds o acc := by
  unfold boxIds
  split
  · exact mem_addIds.2 (.inr h)
  · exact h
theorem nodup_boxIds {o : Option (Option Ob)} {acc : List Nat} (h : acc.Nodup) : (boxIds o acc).Nodup := by
  unfold boxIds
  split
  · exact nodup_addIds h
  · exact h
theorem mem_closeB {T : Objs} {x : Nat} : ∀ {l acc : List Nat}, x ∈ acc → x ∈ closeB T l acc
  | [], acc, h => h
  | i :: l, acc, h => mem_closeB (l := l) (mem_boxIds h)
theorem nodup_closeB {T : Objs} : ∀ {l acc : List Nat}, acc.Nodup → (closeB T l acc).Nodup
  | [], acc, h => h
  | i :: l, acc, h => nodup_closeB (l := l) (nodup_boxIds h)
theorem nodup_idx {a : Nat} : ∀ {l : List Nat} {i j : Nat}, l.Nodup → l[i]? = some a → l[j]? = some a → i = j
  | [], i, j, _, h, _ => by simp at h
  | b :: l, i, j, hn, h1, h2 => by
    have hn2 := List.nodup_cons.1 hn
    rcases i with _ | i <;> rcases j with _ | j
    · rfl
    · simp at h1 h2; subst h1; exact absurd (List.mem_of_getElem? h2) hn2.1
    · simp at h1 h2; subst h2; exact absurd (List.mem_of_getElem? h1) hn2.1
    · have := nodup_idx hn2.2 (i := i) (j := j) (by simpa using h1) (by simpa using h2)
      omega
theorem canGo_spec {T : Objs} {all : List Nat} : ∀ {ids : List Nat} {K : Objs → Prop}, canGo T all ids K → ∃ os, K os ∧ os.length = ids.length ∧ ∀ (k : Nat) (ob' : Ob), os[k]? = some (some ob') → ∃ o ob, ids[k]? = some o ∧ T[o]? = some (some ob) ∧ ob' = canOb T.length all ob ∧ allIn all (obIds ob)
  | [], K, h => ⟨[], h, rfl, by simp⟩
  | i :: l, K, h => by
    simp only [canGo] at h
    cases h1 : T[i]? with
    | none => rw [h1] at h; exact h.elim
    | some x =>
      rw [h1] at h
      cases x with
      | none => exact h.elim
      | some ob =>
        obtain ⟨h0, h⟩ := h
        obtain ⟨os, h2, h3, h4⟩ := canGo_spec h
        refine ⟨some (canOb T.length all ob) :: os, h2, by simp [h3], fun k ob' hk => ?_⟩
        rcases k with _ | k
        · simp at hk; subst hk; exact ⟨i, ob, rfl, h1, rfl, h0⟩
        · exact h4 k ob' (by simpa using hk)
section
variable {G G' : Gh} {m : Nat} {ids : List Nat} (hle : G.le G') (hpl : ∀ o p, o ∈ ids → G.pl o = some p → G'.pl (m + pos o ids) = some p)
include hle hpl
theorem can0_rel {d : DV} {v : Value} (h : ∀ o ∈ ids0 d, o ∈ ids) (r : Rel G d v) : Rel G' (can0 m ids d) v := by
  cases r with
  | own o off n pl p c h1 h2 h3 h4 => exact .own _ off n pl p c (hpl o pl (h o (by simp [ids0])) h1) h2 h3 h4
  | ptr o i j pl h1 => exact .ptr _ i j pl (hpl o pl (h o (by simp [ids0])) h1)
  | undef v => exact (Rel.undef v).mono hle
  | int k n => exact .int k n
  | bool b => exact .bool b
  | str s => exact .str s
  | lit v => exact .lit v
  | agg cs vs h1 h2 => exact (Rel.agg cs vs h1 h2).mono hle
  | tup cs vs h1 h2 => exact (Rel.tup cs vs h1 h2).mono hle
  | sl sz rows k p len cap b o vals h1 h2 h3 h4 h5 h6 h7 => exact (Rel.sl sz rows k p len cap b o vals h1 h2 h3 h4 h5 h6 h7).mono hle
  | rp row j b o vals h1 h2 => exact (Rel.rp row j b o vals h1 h2).mono hle
  | ifc t d v h1 => exact (Rel.ifc t d v h1).mono hle
  | ifa t cs vs h1 h2 => exact (Rel.ifa t cs vs h1 h2).mono hle
  | clo g cs vs h1 h2 => exact (Rel.clo g cs vs h1 h2).mono hle
theorem canA_rel {d : DV} {v : Value} (h : ∀ o ∈ idsA d, o ∈ ids) (r : Rel G d v) : Rel G' (canA m ids d) v := by
  cases r with
  | agg cs vs h1 h2 =>
    refine .agg _ vs (by simpa using h1) fun i c hc => ?_
    rw [List.getElem?_map, Option.map_eq_some_iff] at hc
    obtain ⟨c0, h3, rfl⟩ := hc
    exact can0_rel hle hpl (fun o ho => h o (List.mem_flatMap.2 ⟨c0, List.mem_of_getElem? h3, ho⟩)) (h2 i c0 h3)
  | own o off n pl p c h1 h2 h3 h4 => exact can0_rel (d := .own o off n) hle hpl h (.own o off n pl p c h1 h2 h3 h4)
  | ptr o i j pl h1 => exact can0_rel (d := .ptr o i j) hle hpl h (.ptr o i j pl h1)
  | undef v => exact can0_rel (d := .undef) hle hpl h (.undef v)
  | int k n => exact .int k n
  | bool b => exact .bool b
  | str s => exact .str s
  | lit v => exact .lit v
  | tup cs vs h1 h2 => exact (Rel.tup cs vs h1 h2).mono hle
  | sl sz rows k p len cap b o vals h1 h2 h3 h4 h5 h6 h7 => exact (Rel.sl sz rows k p len cap b o vals h1 h2 h3 h4 h5 h6 h7).mono hle
  | rp row j b o vals h1 h2 => exact (Rel.rp row j b o vals h1 h2).mono hle
  | ifc t d v h1 => exact .ifc t _ v (can0_rel hle hpl (fun o ho => h o (by simpa [idsA] using ho)) h1)
  | ifa t cs vs h1 h2 =>
    refine .ifa t _ vs (by simpa using h1) fun i c hc => ?_
    rw [List.getElem?_map, Option.map_eq_some_iff] at hc
    obtain ⟨c0, h3, rfl⟩ := hc
    exact can0_rel hle hpl (fun o ho => h o (List.mem_flatMap.2 ⟨c0, List.mem_of_getElem? h3, ho⟩)) (h2 i c0 h3)
  | clo g cs vs h1 h2 =>
    refine .clo g _ vs (by simpa using h1) fun i c hc => ?_
    rw [List.getElem?_map, Option.map_eq_some_iff] at hc
    obtain ⟨c0, h3, rfl⟩ := hc
    exact can0_rel hle hpl (fun o ho => h o (List.mem_flatMap.2 ⟨c0, List.mem_of_getElem? h3, ho⟩)) (h2 i c0 h3)
theorem canT_rel {d : DV} {v : Value} (h : ∀ o ∈ idsT d, o ∈ ids) (r : Rel G d v) : Rel G' (canT m ids d) v := by
  cases r with
  | tup cs vs h1 h2 =>
    refine .tup _ vs (by simpa using h1) fun i c hc => ?_
    rw [List.getElem?_map, Option.map_eq_some_iff] at hc
    obtain ⟨c0, h3, rfl⟩ := hc
    exact canA_rel hle hpl (fun o ho => h o (List.mem_flatMap.2 ⟨c0, List.mem_of_getElem? h3, ho⟩)) (h2 i c0 h3)
  | agg cs vs h1 h2 => exact canA_rel (d := .agg cs) hle hpl h (.agg cs vs h1 h2)
  | own o off n pl p c h1 h2 h3 h4 => exact can0_rel (d := .own o off n) hle hpl h (.own o off n pl p c h1 h2 h3 h4)
  | ptr o i j pl h1 => exact can0_rel (d := .ptr o i j) hle hpl h (.ptr o i j pl h1)
  | undef v => exact can0_rel (d := .undef) hle hpl h (.undef v)
  | int k n => exact .int k n
  | bool b => exact .bool b
  | str s => exact .str s
  | lit v => exact .lit v
  | sl sz rows k p len cap b o vals h1 h2 h3 h4 h5 h6 h7 => exact (Rel.sl sz rows k p len cap b o vals h1 h2 h3 h4 h5 h6 h7).mono hle
  | rp row j b o vals h1 h2 => exact (Rel.rp row j b o vals h1 h2).mono hle
  | ifc t d v h1 => exact canA_rel (d := .wrap (.ifc t) [d]) hle hpl h (.ifc t d v h1)
  | ifa t cs vs h1 h2 => exact canA_rel (d := .wrap (.ifa t) cs) hle hpl h (.ifa t cs vs h1 h2)
  | clo g cs vs h1 h2 => exact canA_rel (d := .wrap (.clo g) cs) hle hpl h (.clo g cs vs h1 h2)
end
theorem canE_eq (m : Nat) (ids : List Nat) : ∀ e : List (Nat × DV), canE m ids e = e.map fun x => (x.1, canT m ids x.2)
  | [] => rfl
  | (t, d) :: l => by simp [canE, canE_eq m ids l]
theorem canOb_live {G G' : Gh} {m : Nat} {ids : List Nat} {w : World} {p : Place} {ob : Ob} (hle : G.le G') (hpl : ∀ o p, o ∈ ids → G.pl o = some p → G'.pl (m + pos o ids) = some p)
    (hb : ∀ cs, ob = .box cs → ∀ c ∈ cs, ∀ o ∈ ids0 c, o ∈ ids) (hl : LiveAt G w p ob) : LiveAt G' w p (canOb m ids ob) := by
  cases ob with
  | arr sz rows => exact hl.mono hle (fun _ _ => rfl) (fun _ _ => rfl) (fun _ h => h)
  | box cs =>
    refine ⟨by have := hl.psz; simpa [canOb, Ob.sz] using this, by have := hl.fits; simpa [canOb, Ob.rows] using this, fun row hrow => ?_, hl.there, fun i j row c v hi hj hv => ?_, hl.mko⟩
    · have := hl.size cs (by simp [Ob.rows])
      simp [Ob.rows, canOb] at hrow
      subst hrow
      simpa using this
    · simp only [Ob.rows, canOb] at hi
      rcases i with _ | i
      · simp at hi
        subst hi
        rw [List.getElem?_map, Option.map_eq_some_iff] at hj
        obtain ⟨c0, h1, rfl⟩ := hj
        exact can0_rel hle hpl (hb cs rfl c0 (List.mem_of_getElem? h1)) (hl.holds 0 j cs c0 v rfl h1 hv)
      · simp at hi
theorem canS_sound {E : Prg} {C : Ctx} {st : St} {a : Act} {w : World} {K : Nat → St → Prop} (h : RelSt E C st a w) (hk : canS st K) : ∃ st', K st.objs.length st' ∧ RelSt E C st' a w := by
  obtain ⟨G, hr⟩ := h
  obtain ⟨os, hK, hlen, hos⟩ := canGo_spec hk
  refine ⟨_, hK, ?_⟩
  have hnd : (closeB st.objs (idsE st.env []) (idsE st.env [])).Nodup := nodup_closeB (nodup_idsE List.nodup_nil)
  have hsub : ∀ x, x ∈ idsE st.env [] → x ∈ closeB st.objs (idsE st.env []) (idsE st.env []) := fun x hx => mem_closeB hx
  have hold : ∀ t, ∀ o ∈ idsT (St.look t st.env), o ∈ idsE st.env [] := fun t o ho => by
    rcases look_mem t st.env with h1 | h1
    · rw [h1] at ho; simp [idsT, idsA, ids0] at ho
    · exact mem_idsE.2 (.inl ⟨_, h1, ho⟩)
  generalize hids : closeB st.objs (idsE st.env []) (idsE st.env []) = ids at *
  let G' : Gh := { rd := G.rd, pl := fun x => if x < st.objs.length then G.pl x else match ids[x - st.objs.length]? with | some o => G.pl o | none => none }
  have hle : G.le G' := ⟨fun _ _ h => h, fun k p h => by
    have := hr.heap.pls k p h
    simp only [G']
    rw [if_pos this]; exact h⟩
  have hpl : ∀ o p, o ∈ ids → G.pl o = some p → G'.pl (st.objs.length + pos o ids) = some p := fun o p ho hp => by
    simp only [G']
    rw [if_neg (by omega), Nat.add_sub_cancel_left, pos_get ho]
    exact hp
  have hnew : ∀ (k : Nat) (ob' : Ob), (List.replicate st.objs.length none ++ os)[k]? = some (some ob') → st.objs.length ≤ k ∧ ∃ o ob, ids[k - st.objs.length]? = some o ∧ st.objs[o]? = some (some ob) ∧ ob' = canOb st.objs.length ids ob ∧ allIn ids (obIds ob) ∧ G'.pl k = G.pl o := fun k ob' h => by
    by_cases hk : k < st.objs.length
    · rw [List.getElem?_append_left (by simpa using hk), List.getElem?_replicate, if_pos hk] at h
      cases h
    · rw [List.getElem?_append_right (by simpa using hk)] at h
      simp only [List.length_replicate] at h
      obtain ⟨o, ob, h1, h2, h3, h4⟩ := hos _ _ h
      refine ⟨by omega, o, ob, h1, h2, h3, h4, ?_⟩
      simp only [G']
      rw [if_neg hk, h1]
  refine ⟨G', ⟨fun t => ?_, hr.num, hr.defs, ⟨fun k p hp => ?_, fun k ob hob => ?_, ?_, hr.heap.rdv, ?_⟩, ?_, fun g row hg => (hr.glob g row hg).mono hle⟩⟩
  · show Rel G' (St.look t (canE st.objs.length ids st.env)) _
    rw [canE_eq, St.look_map (canT st.objs.length ids) rfl]
    exact canT_rel hle hpl (fun o ho => hsub _ (hold t o ho)) (hr.env t)
  · simp only [G'] at hp
    simp only [List.length_append, List.length_replicate, hlen]
    split at hp
    · omega
    · split at hp
      · rename_i o ho
        have := (List.getElem?_eq_some_iff.1 ho).1
        omega
      · cases hp
  · obtain ⟨_, o, ob0, _, h2, rfl, h3, h4⟩ := hnew k ob hob
    obtain ⟨p, hp, hl⟩ := hr.heap.live o ob0 h2
    refine ⟨p, h4.trans hp, canOb_live hle hpl (fun cs e c hc x hx => ?_) hl⟩
    subst e
    exact allIn_mem h3 x (List.mem_flatMap.2 ⟨c, hc, hx⟩)
  · intro k k' r r' p p' i i' h1 h2 hne hp hp' hi hi'
    obtain ⟨k1, o, ob0, k2, k3, _, _, k4⟩ := hnew k r h1
    obtain ⟨l1, o', ob0', l2, l3, _, _, l4⟩ := hnew k' r' h2
    refine hr.heap.sep o o' ob0 ob0' p p' i i' k3 l3 (fun e => ?_) (k4.symm.trans hp) (l4.symm.trans hp') hi hi'
    subst e
    have := nodup_idx hnd k2 l2
    omega
  · intro k r p i hk hp hi
    obtain ⟨_, o, ob0, _, h2, _, _, h3⟩ := hnew k r hk
    exact hr.heap.rds o ob0 p i h2 (h3.symm.trans hp) hi
  · refine ⟨hr.frm.os, hr.frm.tape, hr.frm.output, hr.frm.size, hr.frm.blk, hr.frm.cell, hr.frm.frz, fun k r p i hk hp hi => ?_, hr.frm.rdn, hr.frm.le.trans hle, hr.frm.mko⟩
    obtain ⟨_, o, ob0, _, h2, _, _, h3⟩ := hnew k r hk
    exact hr.frm.mine o ob0 p i h2 (h3.symm.trans hp) hi
/-- A loop, by what holds at each round's head and a measure; objects are named anew. -/
theorem LoopWp.invR {E : Prg} {F : FTab} (hF : FOk E F) {n : Nat} {b : RC} {Q : Exit → St → Prop} {st : St} {σ : Type} (S : Nat → σ → St) (I : σ → Prop) (μ : σ → Nat) (n0 : Nat) (s0 : σ) (h0 : I s0)
    (hw : n0 ≤ st.objs.length ∧ canS st fun m st' => st'.wk (S m s0))
    (round : ∀ m s, n0 ≤ m → I s → b.wp E F n (fun e st' => match e with
      | .normal => n0 ≤ st'.objs.length ∧ canS st' fun m st'' => ∃ s', st''.wk (S m s') ∧ I s' ∧ μ s' < μ s
      | e => Q e st') (S m s)) : LoopWp E n b Q st := by
  intro c ann hc C a w hn hr
  let J : Act → World → Nat → Prop := fun a w k => ∃ m s, n0 ≤ m ∧ I s ∧ RelSt E C (S m s) a w ∧ μ s = k
  have hex : ∀ a w, (∃ m, J a w m) → ∃ m, J a w m ∧ ∀ k, J a w k → m ≤ k := fun a w ⟨m, hm⟩ => exists_least _ m hm
  open Classical in
  let f : Act → World → Nat := fun a w => if h : ∃ m, J a w m then Classical.choose (hex a w h) else 0
  have hf : ∀ a w, (∃ m, J a w m) → J a w (f a w) ∧ ∀ k, J a w k → f a w ≤ k := fun a w h => by
    simp only [f, dif_pos h]
    exact Classical.choose_spec (hex a w h)
  have hstart : ∃ m, J a w m := by
    obtain ⟨st', h1, h2⟩ := canS_sound hr hw.2
    exact ⟨μ s0, st.objs.length, s0, hw.1, h0, h2.wk h1, rfl⟩
  refine wp_loop (fun a w => ∃ m, J a w m) f hstart (fun a w hJ => ?_)
  obtain ⟨⟨m, s, hm0, hI, hrs, hm⟩, hmin⟩ := hf a w hJ
  refine Code.wp_mono ?_ (RC.sound hF c ann b _ (S m s) hc (round m s hm0 hI) C a w hn hrs)
  rintro e a' w' ⟨st', h1, h2⟩
  cases e with
  | normal =>
    obtain ⟨st'', ⟨s', hw', hI', hlt⟩, h3⟩ := canS_sound h2 h1.2
    have hJ' : J a' w' (μ s') := ⟨_, s', h1.1, hI', h3.wk hw', rfl⟩
    refine ⟨⟨_, hJ'⟩, ?_⟩
    have := (hf a' w' ⟨_, hJ'⟩).2 _ hJ'
    omega
  | _ => exact ⟨st', h1, h2⟩
/-- A nil slice is an object of one's own without a cell. -/
theorem LoopWp.own {E : Prg} {n : Nat} {b : RC} {Q : Exit → St → Prop} {st : St} (t sz : Nat) {s : Nat} {k : SK} (h : st.get t = .sl s [] k) (hk : k = .nil ∨ k = .zero)
    (h2 : LoopWp E n b Q ⟨St.rep t (.own st.objs.length 0 0) st.env, st.objs ++ [some (.arr sz [])]⟩) : LoopWp E n b Q st := by
  intro c ann hc C a w hn ⟨G, hr⟩
  have hr2 := hr.newEmpty sz
  refine h2 c ann hc C a w hn ⟨G.more st.objs.length ⟨0, 0, sz, 0⟩, ⟨fun u => ?_, hr2.num, hr2.defs, hr2.heap, hr2.frm, hr2.glob⟩⟩
  by_cases e : u = t
  · subst e
    have h3 : Rel (G.more st.objs.length ⟨0, 0, sz, 0⟩) (st.get u) _ := hr2.env u
    rw [h] at h3
    have h4 : St.look u (St.rep u (.own st.objs.length 0 0) st.env) = .own st.objs.length 0 0 ∨ St.look u (St.rep u (.own st.objs.length 0 0) st.env) = .undef := by
      clear h h2 hr hr2 h3
      induction st.env with
      | nil => exact .inr rfl
      | cons x l ih =>
        obtain ⟨k, d⟩ := x
        simp only [St.rep]
        split
        · rename_i e; simp [St.look]
        · rename_i e; simp only [St.look]; rw [if_neg e]; exact ih
    show Rel _ (St.look u (St.rep u (.own st.objs.length 0 0) st.env)) _
    rcases h4 with h4 | h4
    · rw [h4]
      generalize a.tmps.getD u Go.undef = v at h3
      cases h3 with
      | sl _ _ _ p len cap b' o vals h5 h6 h7 h8 _ _ _ =>
        have hl : len = 0 := by simpa using h5
        subst hl
        have hc0 : cap = 0 := by
          rcases hk with rfl | rfl
          · exact h6.2
          · exact h6
        subst hc0
        exact .own _ 0 0 ⟨0, 0, sz, 0⟩ p 0 (by simp [Gh.more]) rfl (Nat.le_refl _) (fun h => by omega)
    · rw [h4]; exact .undef _
  · have h3 : St.look u (St.rep t (.own st.objs.length 0 0) st.env) = St.look u st.env := by
      clear h h2 hr hr2
      induction st.env with
      | nil => rfl
      | cons x l ih =>
        obtain ⟨k, d⟩ := x
        simp only [St.rep]
        split
        · rename_i e2; subst e2; simp only [St.look]; rw [if_neg (fun h => e h.symm), if_neg (fun h => e h.symm)]
        · simp only [St.look]; rw [ih]
    show Rel _ (St.look u (St.rep t (.own st.objs.length 0 0) st.env)) _
    rw [h3]
    exact hr2.env u
theorem objsWk_pre (n : Nat) (a b : Objs) : objsWk (List.replicate n none ++ a) (List.replicate n none ++ b) = objsWk a b := by
  induction n with
  | zero => rfl
  | succ n ih => simp only [List.replicate_succ, List.cons_append, objsWk_none, ih]
theorem addId_nil (a : Nat) : addId a [] = [a] := nrfl _
theorem addId_cons (a b : Nat) (l : List Nat) : addId a (b :: l) = if a = b then b :: l else b :: addId a l := nrfl _
theorem addIds_nil (acc : List Nat) : addIds [] acc = acc := nrfl _
theorem addIds_cons (a : Nat) (l acc : List Nat) : addIds (a :: l) acc = addIds l (addId a acc) := nrfl _
theorem idsE_nil (acc : List Nat) : idsE [] acc = acc := nrfl _
theorem idsE_cons (t : Nat) (d : DV) (l : List (Nat × DV)) (acc : List Nat) : idsE ((t, d) :: l) acc = idsE l (addIds (idsT d) acc) := nrfl _
theorem canE_nil (m : Nat) (ids : List Nat) : canE m ids [] = [] := nrfl _
theorem canE_cons (m : Nat) (ids : List Nat) (t : Nat) (d : DV) (l : List (Nat × DV)) : canE m ids ((t, d) :: l) = (t, canT m ids d) :: canE m ids l := nrfl _
theorem canGo_nil (T : Objs) (all : List Nat) (k : Objs → Prop) : canGo T all [] k = k [] := nrfl _
theorem closeB_nil (T : Objs) (acc : List Nat) : closeB T [] acc = acc := nrfl _
theorem closeB_cons (T : Objs) (i : Nat) (l acc : List Nat) : closeB T (i :: l) acc = closeB T l (boxIds T[i]? acc) := nrfl _
theorem boxIds_box (cs : List DV) (acc : List Nat) : boxIds (some (some (.box cs))) acc = addIds (cs.flatMap ids0) acc := nrfl _
theorem boxIds_arr (sz : Nat) (rows : List (List DV)) (acc : List Nat) : boxIds (some (some (.arr sz rows))) acc = acc := nrfl _
theorem boxIds_none (acc : List Nat) : boxIds (some none) acc = acc := nrfl _
theorem canOb_box (m : Nat) (ids : List Nat) (cs : List DV) : canOb m ids (.box cs) = .box (cs.map (can0 m ids)) := nrfl _
theorem canOb_arr (m : Nat) (ids : List Nat) (sz : Nat) (rows : List (List DV)) : canOb m ids (.arr sz rows) = .arr sz rows := nrfl _
theorem canGo_cons (T : Objs) (all : List Nat) (i : Nat) (l : List Nat) (k : Objs → Prop) : canGo T all (i :: l) k = (bindO T[i]? fun x => bindO x fun ob => allIn all (obIds ob) ∧ canGo T all l fun os => k (some (canOb T.length all ob) :: os)) := nrfl _
theorem inL_nil (a : Nat) : inL a [] = False := nrfl _
theorem inL_cons (a b : Nat) (l : List Nat) : inL a (b :: l) = (a = b ∨ inL a l) := nrfl _
theorem allIn_nil (all : List Nat) : allIn all [] = True := nrfl _
theorem allIn_cons (all : List Nat) (a : Nat) (l : List Nat) : allIn all (a :: l) = (inL a all ∧ allIn all l) := nrfl _
theorem obIds_box (cs : List DV) : obIds (.box cs) = cs.flatMap ids0 := nrfl _
theorem obIds_arr (sz : Nat) (rows : List (List DV)) : obIds (.arr sz rows) = [] := nrfl _
theorem canI_eq (T : Objs) (ids : List Nat) (e : List (Nat × DV)) (K : Nat → St → Prop) : canI T ids e K = canGo T ids ids fun os => K T.length ⟨canE T.length ids e, List.replicate T.length none ++ os⟩ := nrfl _
theorem canS_mk (e : List (Nat × DV)) (T : Objs) (K : Nat → St → Prop) : canS ⟨e, T⟩ K = canI T (closeB T (idsE e []) (idsE e [])) e K := nrfl _
theorem idsT_rp (row : List DV) (j : Nat) : idsT (.rp row j) = [] := nrfl _
theorem idsT_undef : idsT .undef = [] := nrfl _
theorem canT_rp (m : Nat) (ids : List Nat) (row : List DV) (j : Nat) : canT m ids (.rp row j) = .rp row j := nrfl _
end Go.Proofs.Ytaopaongpoecoaa
