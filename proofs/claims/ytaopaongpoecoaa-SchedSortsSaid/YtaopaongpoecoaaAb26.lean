/- What listed package-level variables hold; a law's contract. -/
import Derived.Test.YtaopaongpoecoaaAb25
import Derived.Deep.DeepHandedRow
import Derived.Lib.LaidTab
set_option linter.unusedVariables false
set_option linter.unusedSimpArgs false
namespace Go.Proofs.Ytaopaongpoecoaa
open Go.RowKit Go.ChangeShapes Go.WideShapes
/-! ### Tables of numbers -/
def flat {H : Type} : Nat → DataW H → List Value
  | n + 1, .lit (.int k z) => [.int k z]
  | n + 1, .lit (.bool b) => [.bool b]
  | n + 1, .agg l => l.flatMap (flat n)
  | _, _ => []
def flatFs (P : Program) (ok : TypeId → Bool) : List Field → Nat → Option Nat
  | [], off => some off
  | f :: fs, off => if ok f.type = true ∧ f.offset = off then flatFs P ok fs (off + P.cellsOf f.type) else none
def flatT (P : Program) : Nat → TypeId → Bool
  | 0, _ => false
  | n + 1, t => match P.underlying t with
    | some (.int _) => true
    | some .bool => true
    | some (.array k e) => flatT P n e && decide (P.cellsOf t = k * P.cellsOf e)
    | some (.struct fs) => flatFs P (flatT P n) fs.toList 0 == some (P.cellsOf t)
    | _ => false
section
variable {H : Type} {enc : TypeId × Value → H} {P : Program} {w : World} {base : Nat} {spare : Nat → Bool} {held : Bool}
theorem pieces {α : Type} (sz : Nat) : ∀ (k : Nat) (cs : List α), cs.length = k * sz → cs = (List.range k).flatMap fun i => (cs.drop (i * sz)).take sz
  | 0, cs, h => by
    have : cs = [] := List.eq_nil_of_length_eq_zero (by simpa using h)
    subst this; rfl
  | k + 1, cs, h => by
    rw [List.range_succ_eq_map, List.flatMap_cons, List.flatMap_map]
    have h1 := pieces sz k (cs.drop sz) (by rw [List.length_drop, h, Nat.succ_mul]; omega)
    simp only [List.drop_drop] at h1
    have h2 : ∀ i, sz + i * sz = (i + 1) * sz := fun i => by rw [Nat.succ_mul]; omega
    simp only [h2] at h1
    simp only [Nat.zero_mul, List.drop_zero]
    conv => lhs; rw [← List.take_append_drop sz cs, h1]
theorem flatMap_congr_idx {α β γ : Type} {f : α → List γ} {g : β → List γ} : ∀ {l : List α} {m : List β}, l.length = m.length → (∀ (i : Nat) a b, l[i]? = some a → m[i]? = some b → f a = g b) → l.flatMap f = m.flatMap g
  | [], [], _, _ => rfl
  | a :: l, b :: m, h, hg => by
    rw [List.flatMap_cons, List.flatMap_cons, hg 0 a b rfl rfl, flatMap_congr_idx (by simpa using h) fun i a b h1 h2 => hg (i + 1) a b (by simpa using h1) (by simpa using h2)]
theorem flatFs_eq {ok : TypeId → Bool} {m : Nat} {cs : List Value} : ∀ (fs : List Field) (off e : Nat), flatFs P ok fs off = some e → e = cs.length → off ≤ cs.length ∧ cs.drop off = fs.flatMap fun f => (cs.drop f.offset).take (P.cellsOf f.type)
  | [], off, e, h, he => by
    obtain rfl := Option.some.inj h
    refine ⟨by omega, ?_⟩
    rw [he]; simp
  | f :: fs, off, e, h, he => by
    simp only [flatFs] at h
    split at h
    · rename_i hc
      obtain ⟨h1, h2⟩ := flatFs_eq (m := m) (cs := cs) fs _ _ h he
      refine ⟨by omega, ?_⟩
      rw [List.flatMap_cons, ← h2, hc.2, ← List.drop_drop, List.take_append_drop]
    · cases h
theorem trod_flat : ∀ (n : Nat) (t : TypeId), flatT P n t = true → ∀ (fuel : Nat) (cs : List Value) (x : DataW H × List MemPlace), DataW.trod enc P w base spare held fuel t cs = some x → cs = flat n x.1
  | 0, t, h, _, _, _, _ => by cases h
  | n + 1, t, h, fuel, cs, x, hx => by
    simp only [flatT] at h
    split at h
    · rename_i k ht
      obtain ⟨z, rfl, rfl, _⟩ := DataW.trod_int ht hx
      rfl
    · rename_i ht
      obtain ⟨z, rfl, rfl⟩ := DataW.trod_bool ht hx
      rfl
    · rename_i k e ht
      simp only [Bool.and_eq_true, decide_eq_true_eq] at h
      obtain ⟨xs, m, rfl, rfl, h1, h2, h3⟩ := DataW.trod_array ht hx
      simp only [flat, List.flatMap_map]
      conv => lhs; rw [pieces (P.cellsOf e) k cs (by rw [h1, h.2])]
      refine flatMap_congr_idx (by simp [h2]) fun i a b ha hb => ?_
      have hi : i < k := by have := (List.getElem?_eq_some_iff.1 ha).1; simpa using this
      rw [List.getElem?_range hi] at ha
      obtain rfl := Option.some.inj ha
      exact trod_flat n e h.1 m _ _ ((h3 i hi).trans hb)
    · rename_i fs ht
      obtain ⟨xs, m, rfl, rfl, h1, h2, h3⟩ := DataW.trod_struct ht hx
      simp only [flat, List.flatMap_map]
      have h4 := (flatFs_eq (m := 0) (cs := cs) fs.toList 0 (P.cellsOf t) (by simpa using h) h1.symm).2
      rw [List.drop_zero] at h4
      conv => lhs; rw [h4]
      have hok : ∀ (L : List Field) (off e : Nat), flatFs P (flatT P n) L off = some e → ∀ f ∈ L, flatT P n f.type = true := by
        intro L
        induction L with
        | nil => intro _ _ _ f hf; cases hf
        | cons g L ih =>
          intro off e h f hf
          simp only [flatFs] at h
          split at h
          · rename_i hc
            rcases List.mem_cons.1 hf with rfl | hf
            · exact hc.1
            · exact ih _ _ h f hf
          · cases h
      refine flatMap_congr_idx (by simp [h2]) fun i a b ha hb => ?_
      have ha' : fs[i]? = some a := by simpa using ha
      exact trod_flat n a.type (hok _ _ _ (by simpa using h) a (List.mem_of_getElem? ha)) m _ _ ((h3 i a ha').trans hb)
    · cases h
theorem laid_cells {laid : List (String × DataW Unit)} (h : laidMetH P laid w) (hn : laid.all (fun x => x.2.handleName?.isNone) = true) {name : String} {d : DataW Unit} (hm : (name, d) ∈ laid) {g : Nat} {t : TypeId} {n : Nat}
    (hg : P.globalNamed name = some g) (hty : (P.globals[g]?).map (·.type) = some t) (hf : flatT P n t = true) : ∀ i, w.cell? ⟨g, i, none⟩ = (flat n d)[i]? := by
  have h0 : laidMet P laid w := by
    unfold laidMetH at h
    have : laid.filter (fun x => x.2.handleName?.isSome) = [] := by
      rw [List.filter_eq_nil_iff]
      intro x hx
      have := List.all_eq_true.1 hn x hx
      simp at this
      simp [this]
    rw [this] at h
    exact h
  obtain ⟨ps, h1, h2⟩ := h0
  clear h hn h2
  induction laid generalizing ps with
  | nil => cases hm
  | cons x r ih =>
    obtain ⟨n0, d0⟩ := x
    obtain ⟨g', t', cs, fuel, p, q, hg', hty', hvar, hd, hr, _⟩ := h1
    rcases List.mem_cons.1 hm with e | hm
    · obtain ⟨rfl, rfl⟩ := Prod.mk.injEq .. ▸ e
      obtain rfl := Option.some.inj (hg.symm.trans hg')
      obtain rfl := Option.some.inj (hty.symm.trans hty')
      intro i
      rw [World.var?_cell hg hvar i, ← trod_flat n t hf fuel _ _ hd]
      simp
    · exact ih hm q hr
/-- A table's cells as a row that is read. -/
theorem rp_of_cells {g : Nat} {row : List DV} {vs : List Value} (h : ∀ i, w.cell? ⟨g, i, none⟩ = vs[i]?) (hl : row.length = vs.length) (hr : ∀ (i : Nat) d v, row[i]? = some d → vs[i]? = some v → Rel (Gh.all w) d v ∧ v.oneCell' = true) :
    Rel (Gh.all w) (.rp row 0) (.pointer (some ⟨g, 0, none⟩)) := by
  have := Rel.rp (G := Gh.all w) row 0 g 0 (fun m => vs.getD m Go.undef) (fun m c hm => ?_) (fun m c hm => ?_)
  · exact this
  · have hi : m < vs.length := by have := (List.getElem?_eq_some_iff.1 hm).1; omega
    have h1 : vs[m]? = some (vs.getD m Go.undef) := by rw [List.getD_eq_getElem?_getD, List.getElem?_eq_getElem hi]; rfl
    rw [Nat.zero_add]
    exact Gh.all_rd ((h m).trans h1) (hr m c _ hm h1).2
  · have hi : m < vs.length := by have := (List.getElem?_eq_some_iff.1 hm).1; omega
    have h1 : vs[m]? = some (vs.getD m Go.undef) := by rw [List.getD_eq_getElem?_getD, List.getElem?_eq_getElem hi]; rfl
    exact (hr m c _ hm h1).1
/-! ### A law's contract -/
theorem trodAll_len : ∀ {ts : List TypeId} {vs : List Value} {ds : List (DataW H)} {ps : List MemPlace}, DataW.TrodAll enc P w base spare held ts vs ds ps → ds.length = ts.length
  | [], [], [], _, _ => rfl
  | _ :: _, _ :: _, _ :: _, _, ⟨_, _, _, h, _⟩ => by simp [trodAll_len h]
theorem law_contract {E : Prg} {f : FuncId} {fn : Func} {s : ChangeSpec} {tb : TypeId} {k : Nat} {l : List (Bool × List CS)} {apart fresh handsOn : Bool} (hres : fn.resultTypes = #[tb]) (hb : E.P.underlying tb = some .bool)
    (hs : ∀ ds : List (DataW H), ds.length = k → s.fn H ds = { results := [.lit (.bool true)], args := ds }) (hsv : s.vars = []) (hk : fn.params.size = k) (hsh : asAll E.P fn.params.toList = some l)
    (hG : GlobOk E (Gh.all w)) (hlaw : ∀ dv, ConfL l dv → PCalls E f dv fun _ r _ => r = .bool true) {b0 : Nat} {args : Array Value} {ds gs : List (DataW H)} {before : List MemPlace}
    (hval : ∀ (j : Nat) t v, fn.params[j]? = some t → args[j]? = some v → Value.okWide E.P w .any b0 t v) (hW : DataW.Whole enc E.P fn.params.toList s.vars apart w args.toList ds gs before) :
    Calls E.P f args w fun e W' => ∃ v, e = .returned v ∧ s.post enc E.P fn apart fresh handsOn false w args v W' := by
  have hW' := hW
  obtain ⟨p, q, hA, hV, rfl, hfz, hnd⟩ := hW
  obtain ⟨dv, hc, hl, hrel⟩ := args_rel hsh (fun j t v ht hv => hval j t v (by simpa using ht) (by simpa using hv)) hA
  rw [hsv] at hV
  obtain ⟨rfl, rfl⟩ : gs = [] ∧ q = [] := by
    cases gs with
    | nil => exact ⟨rfl, hV⟩
    | cons => exact hV.elim
  have hdl : ds.length = k := by rw [trodAll_len hA]; simpa using hk
  have h := hlaw dv hc 0 (Gh.all w) w args hG (Gh.all_heap w) (by simpa using hl.symm) (fun i d hd => by
    have := hrel i d hd
    simpa [Array.getD_eq_getD_getElem?, List.getD_eq_getElem?_getD] using this)
  refine h.mono fun e W' ⟨v, r, T', G', he, ⟨os, _, hr⟩, _, hrv, hheap, hfrm⟩ => ?_
  subst he hr
  have hno : ∀ a, ¬ cellsOf (Gh.all w) (List.replicate 0 none) a := fun a ⟨k, ob, p, m, h1, _⟩ => by simp at h1
  have hblk : ∀ b : Nat, b < w.heap.size → W'.heap[b]? = w.heap[b]? := fun b hb => hfrm.blk b hb fun o => hno _
  have hv : v = .bool true := by cases hrv; rfl
  subst hv
  refine ⟨_, rfl, ?_⟩
  rw [List.append_nil] at hfz hnd hW'
  have hsfn := hs ds hdl
  have hlt : ∀ x ∈ p, x.block < w.heap.size := hW'.lt
  have hres' : ∀ (b : Nat) (sp : Nat → Bool) (hd : Bool), DataW.TrodAll enc E.P W' b sp hd fn.resultTypes.toList ((Value.bool true).resultList fn.resultTypes.size) [.lit (.bool true)] [] := fun b sp hd => by
    rw [hres]
    exact trodAll_cons_mk (shut_bool hb _) trodAll_mk0
  refine ⟨ds, [], p, [], p, [], hW', ?_, ?_, ?_, ⟨hfrm.os, hfrm.output, fun i hi => ?_⟩, fun h => by cases h⟩
  · rw [List.append_nil, hsfn]; exact hres' _ _ _
  · rw [List.append_nil, hsfn]; exact trodAll_again hblk hsh hA fun x hx => by simpa using hlt x hx
  · rw [List.append_nil, hsfn, hsv]; rfl
  · rw [hblk i hi]
    split
    · rename_i h1 h2; rw [h1] at h2; obtain ⟨rfl, rfl, rfl⟩ := Obj.cells.injEq .. ▸ Option.some.inj h2; exact ⟨rfl, rfl, rfl, fun _ _ => rfl⟩
    · rename_i h1 h2; rw [h1] at h2; obtain ⟨rfl, rfl⟩ := Obj.map.injEq .. ▸ Option.some.inj h2; exact Or.inr ⟨rfl, rfl⟩
    · rfl
end
end Go.Proofs.Ytaopaongpoecoaa
