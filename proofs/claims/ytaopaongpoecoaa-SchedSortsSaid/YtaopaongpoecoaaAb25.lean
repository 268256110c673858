/- A law's arguments as abstract values; the same reading behind the call; a law's contract. -/
import Derived.Test.YtaopaongpoecoaaAb24
set_option linter.unusedVariables false
set_option linter.unusedSimpArgs false
namespace Go.Proofs.Ytaopaongpoecoaa
open Go.RowKit Go.ChangeShapes Go.WideShapes
def isStruct (P : Program) (t : TypeId) : Bool := match P.underlying t with | some (.struct _) => true | _ => false
/-- An argument's shape: one value or a struct's cells. -/
def asOf (P : Program) (t : TypeId) : Option (Bool × List CS) := (shOf P 8 t).map fun l => (isStruct P t, l)
def ConfA : Bool × List CS → DV → Prop
  | (false, l), d => ∃ c, l = [c] ∧ Conf c d
  | (true, l), d => ∃ ds, d = .agg ds ∧ ds.length = l.length ∧ ∀ (i : Nat) c x, l[i]? = some c → ds[i]? = some x → Conf c x
def asAll (P : Program) : List TypeId → Option (List (Bool × List CS))
  | [] => some []
  | t :: ts => match asOf P t, asAll P ts with
    | some a, some l => some (a :: l)
    | _, _ => none
def ConfL : List (Bool × List CS) → List DV → Prop
  | [], [] => True
  | a :: l, d :: ds => ConfA a d ∧ ConfL l ds
  | _, _ => False
theorem ConfL.nil {ds : List DV} (h : ConfL [] ds) : ds = [] := by
  cases ds with
  | nil => rfl
  | cons => exact h.elim
theorem ConfL.cons {a : Bool × List CS} {l : List (Bool × List CS)} {ds : List DV} (h : ConfL (a :: l) ds) : ∃ d r, ds = d :: r ∧ ConfA a d ∧ ConfL l r := by
  cases ds with
  | nil => exact h.elim
  | cons d r => exact ⟨d, r, rfl, h.1, h.2⟩
section
variable {H : Type} {enc : TypeId × Value → H} {P : Program} {w : World}
theorem okWide_cells {r : Reach} {b0 : Nat} {t : TypeId} {v : Value} {l : List CS} (h : Value.okWide P w r b0 t v) (hs : shOf P 8 t = some l) (hn : isStruct P t = false) : v.cells.toList = [v] := by
  unfold isStruct at hn
  have key : ∀ cs, v ≠ .agg cs := by
    intro cs e
    subst e
    rw [shOf] at hs
    unfold Value.okWide Cell.okWide Cell.ok at h
    split at hs <;> rename_i ht <;> first | (rw [ht] at h; exact h.elim) | (rw [ht] at hn; cases hn) | cases hs
  cases v <;> first | rfl | exact absurd rfl (key _)
theorem okWide_agg {r : Reach} {b0 : Nat} {t : TypeId} {v : Value} (h : Value.okWide P w r b0 t v) (hn : isStruct P t = true) : ∃ cs, v = .agg cs := by
  unfold isStruct at hn
  split at hn
  · rename_i ht
    unfold Value.okWide at h
    rw [ht] at h
    obtain ⟨cs, h, _⟩ := h
    exact ⟨cs, h⟩
  · cases hn
theorem arg_rel {r : Reach} {b0 base : Nat} {spare : Nat → Bool} {held : Bool} {t : TypeId} {v : Value} {d : DataW H} {ps : List MemPlace} {a : Bool × List CS} (ha : asOf P t = some a) (hv : Value.okWide P w r b0 t v)
    (hd : DataW.Trod enc P w base spare held t v d ps) : ∃ x, ConfA a x ∧ Rel (Gh.all w) x v := by
  unfold asOf at ha
  cases hl : shOf P 8 t with
  | none => rw [hl] at ha; cases ha
  | some l =>
    rw [hl] at ha
    obtain rfl := Option.some.inj ha
    obtain ⟨fuel, hf⟩ := hd
    obtain ⟨h1, ds, h2, h3⟩ := trod_rel 8 t l hl fuel _ _ hf
    cases hn : isStruct P t with
    | false =>
      rw [okWide_cells hv hl hn] at h1 h3
      match l, h1 with
      | [c], _ =>
        match ds, h2 with
        | [x], _ =>
          obtain ⟨k1, k2, _⟩ := h3 0 c x v rfl rfl rfl
          exact ⟨x, ⟨c, rfl, k1⟩, k2⟩
    | true =>
      obtain ⟨cs, rfl⟩ := okWide_agg hv hn
      simp only [Value.cells] at h1 h3
      refine ⟨.agg ds, ⟨ds, rfl, h2, fun i c x hc hx => ?_⟩, .agg ds cs (by simpa using h1.trans h2.symm) fun i c hc => ?_⟩
      · have hi : i < cs.toList.length := by have := (List.getElem?_eq_some_iff.1 hc).1; omega
        exact (h3 i c x _ hc hx (List.getElem?_eq_getElem hi)).1
      · have hi : i < ds.length := (List.getElem?_eq_some_iff.1 hc).1
        have hi2 : i < cs.toList.length := by omega
        have hi3 : i < cs.size := by simpa using hi2
        have := (h3 i _ c _ (List.getElem?_eq_getElem (by omega)) hc (List.getElem?_eq_getElem hi2)).2.1
        simpa [Array.getD, hi3] using this
theorem args_rel {base b0 : Nat} {spare : Nat → Bool} {held : Bool} {r : Reach} : ∀ {ts : List TypeId} {vs : List Value} {ds : List (DataW H)} {ps : List MemPlace} {l : List (Bool × List CS)}, asAll P ts = some l →
    (∀ (j : Nat) t v, ts[j]? = some t → vs[j]? = some v → Value.okWide P w r b0 t v) → DataW.TrodAll enc P w base spare held ts vs ds ps →
    ∃ dv : List DV, ConfL l dv ∧ dv.length = vs.length ∧ ∀ (i : Nat) d, dv[i]? = some d → Rel (Gh.all w) d (vs.getD i Go.undef)
  | [], [], [], ps, l, hl, hv, h => by
    obtain rfl := Option.some.inj hl
    exact ⟨[], trivial, rfl, by simp⟩
  | t :: ts, v :: vs, d :: ds, ps, l, hl, hv, ⟨p, q, h1, h2, h3⟩ => by
    simp only [asAll] at hl
    split at hl
    · rename_i a l' ha hl'
      obtain rfl := Option.some.inj hl
      obtain ⟨x, hx, hr⟩ := arg_rel ha (hv 0 t v rfl rfl) h1
      obtain ⟨dv, k1, k2, k3⟩ := args_rel hl' (fun j t v ht hv' => hv (j + 1) t v (by simpa using ht) (by simpa using hv')) h2
      refine ⟨x :: dv, ⟨hx, k1⟩, by simp [k2], fun i d hd => ?_⟩
      rcases i with _ | i
      · simp at hd; subst hd; simpa using hr
      · have := k3 i d (by simpa using hd)
        simpa using this
    · cases hl
/-! ### Behind the call -/
theorem cells?_again {w' : World} {a : Addr} {n : Nat} {cs : List Value} (hb : ∀ b : Nat, b < w.heap.size → w'.heap[b]? = w.heap[b]?) (h : w.cells? 0 a n = some cs) : w'.cells? 0 a n = some cs := by
  rw [← h]
  have hl := (World.cells?_some h).2
  unfold World.cells?
  simp only [Nat.zero_le, if_true]
  have : ∀ i, i < n → w'.cell? (a.add i) = w.cell? (a.add i) := fun i hi => by
    have h1 := hl.2 i hi
    rw [List.getElem?_eq_getElem (by omega)] at h1
    have h2 : (a.add i).block < w.heap.size := by
      unfold World.cell? at h1
      split at h1
      · rename_i h2
        exact (Array.getElem?_eq_some_iff.1 h2).1
      · cases h1
    unfold World.cell?
    rw [hb _ h2]
  have key : ∀ l : List Nat, (∀ i ∈ l, i < n) → l.mapM (fun i => w'.cell? (a.add i)) = l.mapM (fun i => w.cell? (a.add i)) := by
    intro l
    induction l with
    | nil => intro _; rfl
    | cons x l ih => intro hx; rw [List.mapM_cons, List.mapM_cons, this x (hx x (by simp)), ih fun i hi => hx i (by simp [hi])]
  exact key _ fun i hi => by simpa using hi
theorem mapM_eq_of {α β : Type} {f g : α → Option β} : ∀ {l : List α} {r : List β}, l.mapM f = some r → (∀ (i : Nat) x y, l[i]? = some x → r[i]? = some y → f x = some y → g x = some y) → l.mapM g = some r
  | [], r, h, _ => h
  | x :: l, r, h, hg => by
    rw [List.mapM_cons] at h ⊢
    cases hx : f x with
    | none => rw [hx] at h; cases h
    | some y =>
      cases hl : l.mapM f with
      | none => rw [hx, hl] at h; cases h
      | some ys =>
        rw [hx, hl] at h
        obtain rfl := Option.some.inj h
        rw [hg 0 x y rfl rfl hx, mapM_eq_of hl fun i x y h1 h2 => hg (i + 1) x y (by simpa using h1) (by simpa using h2)]
        rfl
theorem trod_again {w' : World} {sp : Nat → Bool} (hb : ∀ b : Nat, b < w.heap.size → w'.heap[b]? = w.heap[b]?) : ∀ (n : Nat) (t : TypeId) (l : List CS), shOf P n t = some l → ∀ (fuel : Nat) (cs : List Value) (x : DataW H × List MemPlace),
    DataW.trod enc P w 0 (fun _ => true) true fuel t cs = some x → (∀ p ∈ x.2, sp p.block = true) → DataW.trod enc P w' 0 sp true fuel t cs = some x
  | 0, t, l, h, _, _, _, _ => by cases h
  | n + 1, t, l, h, fuel, cs, x, hx => by
    intro hsp
    cases fuel with
    | zero => simp [DataW.trod] at hx
    | succ m =>
      simp only [shOf] at h
      split at h
      · rename_i ht
        obtain ⟨b, rfl, rfl⟩ := DataW.trod_bool ht hx
        simp [DataW.trod, ht]
      · rename_i k ht
        obtain ⟨b, rfl, rfl, hw⟩ := DataW.trod_int ht hx
        simp [DataW.trod, ht, hw]
      · rename_i ht
        obtain ⟨b, rfl, rfl, hw⟩ := DataW.trod_string ht hx
        simp [DataW.trod, ht, hw]
      · rename_i e ht
        split at h
        · rename_i row hrow
          split at h
          · rename_i hc
            unfold DataW.trod at hx ⊢
            rw [ht] at hx ⊢
            split at hx
            all_goals (rename_i hA; first | cases hA | skip)
            all_goals first
              | exact hx
              | cases hx
              | skip
            rename_i a len cap
            simp only [if_true] at hx
            split at hx
            · rename_i hcond
              rw [if_pos hcond]
              cases he : (List.range len).mapM fun i => (w.cells? 0 (a.add (i * P.cellsOf e)) (P.cellsOf e)).bind (DataW.trod enc P w 0 (fun _ => true) true m e) with
              | none => rw [he] at hx; cases hx
              | some elems =>
                rw [he] at hx
                simp only [Option.bind_some] at hx
                cases hr : (List.range (cap - len)).mapM fun j => (w.cells? 0 (a.add ((len + j) * P.cellsOf e)) (P.cellsOf e)).bind (DataW.trod enc P w 0 (fun _ => true) true m e) with
                | none => rw [hr] at hx; cases hx
                | some rest =>
                  rw [hr] at hx
                  obtain rfl := Option.some.inj hx
                  have hel : elems.length = len := by simpa using mapM_some_length he
                  have hrl : rest.length = cap - len := by simpa using mapM_some_length hr
                  have step : ∀ (k : Nat) (y : DataW H × List MemPlace), (∀ p ∈ y.2, sp p.block = true) → (w.cells? 0 (a.add (k * P.cellsOf e)) (P.cellsOf e)).bind (DataW.trod enc P w 0 (fun _ => true) true m e) = some y →
                      (w'.cells? 0 (a.add (k * P.cellsOf e)) (P.cellsOf e)).bind (DataW.trod enc P w' 0 sp true m e) = some y := by
                    intro k y hy h1
                    rw [Option.bind_eq_some_iff] at h1
                    obtain ⟨cs', h2, h3⟩ := h1
                    rw [cells?_again hb h2, Option.bind_some]
                    exact trod_again hb n e row hrow m cs' y h3 hy
                  have hmem : ∀ y ∈ elems ++ rest, ∀ p ∈ y.2, sp p.block = true := fun y hy p hp => hsp p (by
                    simp only [List.mem_append]
                    exact Or.inr (List.mem_flatMap.2 ⟨y, hy, hp⟩))
                  rw [mapM_eq_of he fun i k y h1 h2 h3 => step k y (hmem y (List.mem_append_left _ (List.mem_of_getElem? h2))) h3, Option.bind_some]
                  have hr2 := mapM_eq_of hr fun i k y h1 h2 h3 => step (len + k) y (hmem y (List.mem_append_right _ (List.mem_of_getElem? h2))) h3
                  by_cases hz : cap - len = 0
                  · have hrn : rest = [] := List.eq_nil_of_length_eq_zero (by omega)
                    subst hrn
                    rw [hz]
                    split <;> rfl
                  · have hsa : sp a.block = true := by
                      have : MemPlace.cell a.block (a.off + 0) ∈ MemPlace.row a ((elems.length + rest.length) * P.cellsOf e) := by
                        unfold MemPlace.row
                        refine List.mem_map.2 ⟨0, ?_, rfl⟩
                        rw [List.mem_range]
                        exact Nat.mul_pos (by omega) (by omega)
                      exact hsp (.cell a.block (a.off + 0)) (by simp only [List.mem_append]; exact Or.inl this)
                    rw [if_pos hsa, hr2]
                    rfl
            · cases hx
          · cases h
        · cases h
      · rename_i fs ht
        split at h
        · rename_i l' hl'
          split at h
          · rename_i hc
            unfold DataW.trod at hx ⊢
            rw [ht] at hx ⊢
            split at hx
            all_goals (rename_i hA; first | cases hA | skip)
            all_goals first
              | cases hx
              | (exfalso; simp_all; done)
              | skip
            rename_i cs _ _
            split at hx
            · rename_i hcl
              rw [if_pos hcl]
              cases he : fs.toList.mapM fun f => DataW.trod enc P w 0 (fun _ => true) true m f.type ((cs.drop f.offset).take (P.cellsOf f.type)) with
              | none => rw [he] at hx; cases hx
              | some xs =>
                rw [he] at hx
                obtain rfl := Option.some.inj hx
                have hfs : ∀ (L : List Field) (off : Nat) (r : List CS), shFs P (shOf P n) L off = some r → ∀ f ∈ L, ∃ lf, shOf P n f.type = some lf := by
                  intro L
                  induction L with
                  | nil => intro _ _ _ f hf; cases hf
                  | cons g L ih =>
                    intro off r h f hf
                    simp only [shFs] at h
                    split at h
                    · rename_i lf hlf
                      split at h
                      · cases hr : shFs P (shOf P n) L (off + lf.length) with
                        | none => rw [hr] at h; cases h
                        | some lr =>
                          rcases List.mem_cons.1 hf with rfl | hf
                          · exact ⟨_, hlf⟩
                          · exact ih _ _ hr f hf
                      · cases h
                    · cases h
                rw [mapM_eq_of he fun i f y h1 h2 h3 => by
                  obtain ⟨lf, hlf⟩ := hfs _ _ _ hl' f (List.mem_of_getElem? h1)
                  exact trod_again hb n f.type lf hlf m _ y h3 fun p hp => hsp p (List.mem_flatMap.2 ⟨y, List.mem_of_getElem? h2, hp⟩)]
                rfl
            · cases hx
          · cases h
        · cases h
      · cases h
theorem trodAll_again {w' : World} {sp : Nat → Bool} (hb : ∀ b : Nat, b < w.heap.size → w'.heap[b]? = w.heap[b]?) : ∀ {ts : List TypeId} {vs : List Value} {ds : List (DataW H)} {ps : List MemPlace} {l : List (Bool × List CS)}, asAll P ts = some l →
    DataW.TrodAll enc P w 0 (fun _ => true) true ts vs ds ps → (∀ p ∈ ps, sp p.block = true) → DataW.TrodAll enc P w' 0 sp true ts vs ds ps
  | [], [], [], ps, l, hl, h, _ => h
  | t :: ts, v :: vs, d :: ds, ps, l, hl, ⟨p, q, ⟨f, h1⟩, h2, h3⟩, hs => by
    subst h3
    simp only [asAll] at hl
    split at hl
    · rename_i a l' ha hl'
      unfold asOf at ha
      cases hl8 : shOf P 8 t with
      | none => rw [hl8] at ha; cases ha
      | some lt =>
        exact ⟨p, q, ⟨f, trod_again hb 8 t lt hl8 f _ _ h1 fun x hx => hs x (List.mem_append_left _ hx)⟩, trodAll_again hb hl' h2 fun x hx => hs x (List.mem_append_right _ hx), rfl⟩
    · cases hl
end
end Go.Proofs.Ytaopaongpoecoaa
