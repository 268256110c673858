/- From what an argument reads as to abstract values; the same reading behind the call; a law's contract. -/
import Derived.Test.YtaopaongpoecoaaAb23
import Derived.ChangeSlices
import Derived.OpenShut
set_option linter.unusedVariables false
set_option linter.unusedSimpArgs false
namespace Go.Proofs.Ytaopaongpoecoaa
open Go.RowKit Go.ChangeShapes Go.WideShapes
/-- What a cell may hold. -/
inductive CS where
  | int (k : IntKind)
  | bool
  | str
  | sl (row : List CS)
/-- A struct's fields, one behind another. -/
def shFs (P : Program) (sh : TypeId → Option (List CS)) : List Field → Nat → Option (List CS)
  | [], _ => some []
  | f :: fs, off => match sh f.type with
    | some l => if f.offset = off ∧ P.cellsOf f.type = l.length then (shFs P sh fs (off + l.length)).map (l ++ ·) else none
    | none => none
def shOf (P : Program) : Nat → TypeId → Option (List CS)
  | 0, _ => none
  | n + 1, t => match P.underlying t with
    | some .bool => some [.bool]
    | some (.int k) => some [.int k]
    | some .string => some [.str]
    | some (.slice e) => match shOf P n e with
      | some row => if row.length = P.cellsOf e ∧ 0 < row.length then some [.sl row] else none
      | none => none
    | some (.struct fs) => match shFs P (shOf P n) fs.toList 0 with
      | some l => if l.length = P.cellsOf t then some l else none
      | none => none
    | _ => none
/-- An abstract value of a shape. -/
inductive Conf : CS → DV → Prop where
  | int (k : IntKind) (n : Int) : k.min ≤ n → n ≤ k.max → Conf (.int k) (.int k n)
  | bool (b : Bool) : Conf .bool (.bool b)
  | str (s : List UInt8) : s.length ≤ 9223372036854775807 → Conf .str (.str s)
  | sl (row : List CS) (rows : List (List DV)) : rows.length ≤ 9223372036854775807 → (∀ r ∈ rows, r.length = row.length) →
      (∀ r ∈ rows, ∀ (i : Nat) c d, row[i]? = some c → r[i]? = some d → Conf c d) → Conf (.sl row) (.sl row.length rows .any)
/-- All of memory, to be read. -/
def Gh.all (w : World) : Gh := { rd := fun a => match w.cell? a with | some v => if v.oneCell' = true then some v else none | none => none, pl := fun _ => none }
theorem Gh.all_rd {w : World} {a : Addr} {v : Value} (h : w.cell? a = some v) (h1 : v.oneCell' = true) : (Gh.all w).rd a = some v := by simp [Gh.all, h, h1]
theorem Gh.all_heap (w : World) : Heap (Gh.all w) [] w where
  pls := fun k p h => by simp [Gh.all] at h
  live := fun k ob h => by simp at h
  sep := fun k k' rows rows' p p' m m' h => by simp at h
  rdv := fun a v h => by
    simp only [Gh.all] at h
    split at h
    · rename_i x hx
      split at h
      · rename_i h1; obtain rfl := Option.some.inj h; exact ⟨hx, h1⟩
      · cases h
    · cases h
  rds := fun k rows p m h => by simp at h
section
variable {H : Type} {enc : TypeId × Value → H} {P : Program} {w : World}
theorem addr_add_add (a : Addr) (m n : Nat) : (a.add m).add n = a.add (m + n) := by
  simp only [Addr.add]
  by_cases hm : m = 0
  · subst hm; simp
  · by_cases hn : n = 0
    · subst hn; simp
    · simp [hm, hn, Nat.add_assoc]
theorem addr_add_plain {a : Addr} (h : a.spot = none) (n : Nat) : a.add n = ⟨a.block, a.off + n, none⟩ := by
  cases a
  simp at h
  subst h
  simp only [Addr.add]
  split
  · rename_i h; subst h; rfl
  · rfl
def RelCs (w : World) (l : List CS) (cs : List Value) : Prop :=
  cs.length = l.length ∧ ∃ ds : List DV, ds.length = l.length ∧ ∀ (i : Nat) c d v, l[i]? = some c → ds[i]? = some d → cs[i]? = some v → Conf c d ∧ Rel (Gh.all w) d v ∧ v.oneCell' = true
theorem RelCs.one {c : CS} {v : Value} {d : DV} (h : Conf c d) (h2 : Rel (Gh.all w) d v) (h3 : v.oneCell' = true) : RelCs w [c] [v] := by
  refine ⟨rfl, [d], rfl, fun i c' d' v' hc hd hv => ?_⟩
  rcases i with _ | i
  · simp at hc hd hv; subst hc hd hv; exact ⟨h, h2, h3⟩
  · simp at hc
theorem RelCs.append {l l' : List CS} {cs cs' : List Value} (h : RelCs w l cs) (h' : RelCs w l' cs') : RelCs w (l ++ l') (cs ++ cs') := by
  obtain ⟨h1, ds, h2, h3⟩ := h
  obtain ⟨h1', ds', h2', h3'⟩ := h'
  refine ⟨by simp [h1, h1'], ds ++ ds', by simp [h2, h2'], fun i c d v hc hd hv => ?_⟩
  by_cases hi : i < l.length
  · rw [List.getElem?_append_left (by omega)] at hc hd hv
    exact h3 i c d v hc hd hv
  · rw [List.getElem?_append_right (by omega)] at hc hd hv
    rw [h2] at hd; rw [h1] at hv
    exact h3' _ c d v hc hd hv
theorem shFs_rel {sh : TypeId → Option (List CS)} {base m : Nat} {held : Bool} {spare : Nat → Bool}
    (ih : ∀ t l, sh t = some l → ∀ cs x, DataW.trod enc P w base spare held m t cs = some x → RelCs w l cs) : ∀ (fs : List Field) (off : Nat) (l : List CS) (cs : List Value), shFs P sh fs off = some l → cs.length = off + l.length →
    (∀ f ∈ fs, ∃ x, DataW.trod enc P w base spare held m f.type ((cs.drop f.offset).take (P.cellsOf f.type)) = some x) → RelCs w l (cs.drop off)
  | [], off, l, cs, h, hl, hx => by
    obtain rfl := Option.some.inj h
    have : cs.drop off = [] := List.drop_eq_nil_of_le (by simp at hl; omega)
    rw [this]
    exact ⟨rfl, [], rfl, fun i c d v hc => by simp at hc⟩
  | f :: fs, off, l, cs, h, hl, hx => by
    simp only [shFs] at h
    split at h
    · rename_i lf hlf
      split at h
      · rename_i hc
        cases hr : shFs P sh fs (off + lf.length) with
        | none => rw [hr] at h; cases h
        | some lr =>
          rw [hr] at h
          obtain rfl := Option.some.inj h
          obtain ⟨x, hx1⟩ := hx f (by simp)
          rw [hc.1, hc.2] at hx1
          have h1 := ih _ _ hlf _ _ hx1
          have h2 := shFs_rel ih fs (off + lf.length) lr cs hr (by simp at hl; omega) fun f hf => hx f (by simp [hf])
          have : cs.drop off = (cs.drop off).take lf.length ++ cs.drop (off + lf.length) := by rw [← List.drop_drop, List.take_append_drop]
          rw [this]
          exact h1.append h2
      · cases h
    · cases h
theorem trod_rel {base : Nat} {held : Bool} {spare : Nat → Bool} : ∀ (n : Nat) (t : TypeId) (l : List CS), shOf P n t = some l → ∀ (fuel : Nat) (cs : List Value) (x : DataW H × List MemPlace),
    DataW.trod enc P w base spare held fuel t cs = some x → RelCs w l cs
  | 0, t, l, h, _, _, _, _ => by cases h
  | n + 1, t, l, h, fuel, cs, x, hx => by
    simp only [shOf] at h
    split at h
    · rename_i ht; obtain rfl := Option.some.inj h
      obtain ⟨b, rfl, rfl⟩ := DataW.trod_bool ht hx
      exact .one (.bool b) (.bool b) rfl
    · rename_i k ht; obtain rfl := Option.some.inj h
      obtain ⟨n, rfl, rfl, hw⟩ := DataW.trod_int ht hx
      have : k.min ≤ n ∧ n ≤ k.max := by simpa [Lit.wf] using hw
      exact .one (.int k n this.1 this.2) (.int k n) rfl
    · rename_i ht; obtain rfl := Option.some.inj h
      obtain ⟨s, rfl, rfl, hw⟩ := DataW.trod_string ht hx
      have e : s = ⟨s.data.toList.toArray⟩ := by cases s; rfl
      refine .one (d := .str s.data.toList) (.str _ (by have : s.size = s.data.toList.length := by cases s; rfl
                                                        rw [← this]; have h2 : maxLen = 9223372036854775807 := by decide
                                                        omega)) ?_ rfl
      rw [e]; exact .str _
    · rename_i e ht
      split at h
      · rename_i row hrow
        split at h
        · rename_i hc
          obtain rfl := Option.some.inj h
          rcases DataW.trod_slice ht hx with ⟨rfl, rfl⟩ | ⟨a, len, cap, elems, rest, m, _, rfl, rfl, hb, hl, hm, hlen, hel, _, _⟩
          · refine .one (d := .sl row.length [] .any) (.sl row [] (by simp) (by simp) (by simp)) ?_ rfl
            exact .sl _ _ _ _ _ _ 0 0 (fun _ _ => Go.undef) rfl (fun _ => rfl) (Nat.le_refl _) (by simp) (by simp) (by simp) (by simp)
          · have key : ∀ i, ∃ cs' : List Value, ∃ ds : List DV, i < len → ds.length = row.length ∧ cs'.length = row.length ∧ (∀ j, j < row.length → w.cell? (a.add (i * row.length + j)) = cs'[j]?) ∧
                ∀ (j : Nat) c d v, row[j]? = some c → ds[j]? = some d → cs'[j]? = some v → Conf c d ∧ Rel (Gh.all w) d v ∧ v.oneCell' = true := by
              intro i
              by_cases hi : i < len
              · have h1 := hel i hi
                rw [List.getElem?_eq_getElem (by omega), Option.bind_eq_some_iff] at h1
                obtain ⟨cs', h2, h3⟩ := h1
                obtain ⟨h4, ds, h5, h6⟩ := trod_rel n e row hrow m cs' _ h3
                obtain ⟨_, h7, h8⟩ := World.cells?_some h2
                refine ⟨cs', ds, fun _ => ⟨h5, h4, fun j hj => ?_, h6⟩⟩
                have := h8 j (by omega)
                rw [← hc.1] at this
                rw [← this]
                rw [addr_add_add]
              · exact ⟨[], [], fun h => absurd h hi⟩
            have key2 := Classical.axiomOfChoice key
            obtain ⟨cf, key2⟩ := key2
            have key3 := Classical.axiomOfChoice key2
            obtain ⟨df, key3⟩ := key3
            have hmax : maxLen = 9223372036854775807 := by decide
            have hspot : 0 < len → a.spot = none := fun h0 => by
              obtain ⟨k1, k2, k3, _⟩ := key3 0 h0
              have := k3 0 hc.2
              rw [List.getElem?_eq_getElem (by omega)] at this
              simp only [Nat.zero_mul, Nat.add_zero] at this
              rw [Addr.add, if_pos rfl] at this
              unfold World.cell? at this
              split at this
              · split at this
                · cases this
                · rename_i hs
                  cases hsp : a.spot with
                  | none => rfl
                  | some s => rw [hsp] at hs; simp at hs
              · cases this
            have hrow? : ∀ (i : Nat) (r : List DV), ((List.range len).map df)[i]? = some r → i < len ∧ r = df i := fun i r hr => by
              simp only [List.getElem?_map, Option.map_eq_some_iff] at hr
              obtain ⟨i', hi', rfl⟩ := hr
              have := List.getElem?_range (n := len) (i := i)
              by_cases hi : i < len
              · rw [List.getElem?_range hi] at hi'; obtain rfl := Option.some.inj hi'; exact ⟨hi, rfl⟩
              · rw [List.getElem?_eq_none (by simp; omega)] at hi'; cases hi'
            refine .one (d := .sl row.length ((List.range len).map df) .any) (.sl row _ (by rw [List.length_map, List.length_range]; exact Nat.le_trans hl (hmax ▸ hm)) ?_ ?_) ?_ rfl
            · intro r hr
              obtain ⟨i, hi⟩ := List.getElem?_of_mem hr
              obtain ⟨hi2, rfl⟩ := hrow? i r hi
              exact (key3 i hi2).1
            · intro r hr j c d h1 h2
              obtain ⟨i, hi⟩ := List.getElem?_of_mem hr
              obtain ⟨hi2, rfl⟩ := hrow? i r hi
              obtain ⟨k1, k2, k3, k4⟩ := key3 i hi2
              have hj : j < row.length := (List.getElem?_eq_some_iff.1 h1).1
              exact (k4 j c d _ h1 h2 (List.getElem?_eq_getElem (by omega))).1
            · refine .sl _ _ _ _ _ _ a.block a.off (fun i j => (cf i).getD j Go.undef) (by simp) (fun h => by cases h) hl ?_ ?_ ?_ ?_
              · intro hne
                have h0 : 0 < len := by
                  rcases Nat.eq_zero_or_pos len with h0 | h0
                  · subst h0; simp at hne
                  · exact h0
                have := hspot h0
                cases a; simp at this; subst this; rfl
              · intro i r hi
                obtain ⟨hi2, rfl⟩ := hrow? i r hi
                exact (key3 i hi2).1
              · intro i j r c hi hj
                obtain ⟨hi2, rfl⟩ := hrow? i r hi
                obtain ⟨k1, k2, k3, k4⟩ := key3 i hi2
                have hj' : j < row.length := by have := (List.getElem?_eq_some_iff.1 hj).1; omega
                have h1 := k3 j hj'
                have h2 : (cf i)[j]? = some ((cf i).getD j Go.undef) := by rw [List.getD_eq_getElem?_getD, List.getElem?_eq_getElem (by omega)]; rfl
                have hs := hspot (by omega)
                rw [h2] at h1
                have h3 : a.add (i * row.length + j) = ⟨a.block, a.off + (i * row.length + j), none⟩ := addr_add_plain hs _
                rw [h3] at h1
                exact Gh.all_rd h1 (k4 j _ c _ (List.getElem?_eq_getElem hj') hj h2).2.2
              · intro i j r c hi hj
                obtain ⟨hi2, rfl⟩ := hrow? i r hi
                obtain ⟨k1, k2, k3, k4⟩ := key3 i hi2
                have hj' : j < row.length := by have := (List.getElem?_eq_some_iff.1 hj).1; omega
                have h2 : (cf i)[j]? = some ((cf i).getD j Go.undef) := by rw [List.getD_eq_getElem?_getD, List.getElem?_eq_getElem (by omega)]; rfl
                exact (k4 j _ c _ (List.getElem?_eq_getElem hj') hj h2).2.1
        · cases h
      · cases h
    · rename_i fs ht
      split at h
      · rename_i l' hl'
        split at h
        · rename_i hc
          obtain rfl := Option.some.inj h
          obtain ⟨xs, m, rfl, rfl, h1, h2, h3⟩ := DataW.trod_struct ht hx
          have := shFs_rel (enc := enc) (P := P) (w := w) (base := base) (held := held) (spare := spare) (m := m) (fun t l h cs x => trod_rel n t l h m cs x) fs.toList 0 l' cs hl' (by omega) fun f hf => by
            obtain ⟨i, hi⟩ := List.getElem?_of_mem hf
            have hi' : fs[i]? = some f := by simpa using hi
            have := h3 i f hi'
            have hlt : i < xs.length := by have := (Array.getElem?_eq_some_iff.1 hi').1; omega
            rw [List.getElem?_eq_getElem hlt] at this
            exact ⟨_, this⟩
          simpa using this
        · cases h
      · cases h
    · cases h
end
end Go.Proofs.Ytaopaongpoecoaa
