/- Tables of objects: what stands where, in simp's words; what other objects keep. -/
import Derived.Test.YtaopaongpoecoaaAb32
set_option linter.unusedVariables false
set_option linter.unusedSimpArgs false
namespace Go.Proofs.Ytaopaongpoecoaa
open Go.RowKit
theorem tb_geti {α : Type} (T l : List α) (i : Nat) : (T ++ l)[T.length + i]? = l[i]? := by rw [List.getElem?_append_right (by omega)]; congr 1; omega
theorem tb_get0 {α : Type} (T l : List α) (a : α) : (T ++ a :: l)[T.length]? = some a := by simp
theorem tb_seti {α : Type} (T l : List α) (i : Nat) (y : α) : (T ++ l).set (T.length + i) y = T ++ l.set i y := by
  rw [List.set_append_right _ _ (by omega)]; congr 2; omega
theorem tb_set0 {α : Type} (T l : List α) (a y : α) : (T ++ a :: l).set T.length y = T ++ y :: l := by
  rw [List.set_append_right _ _ (Nat.le_refl _)]; simp
theorem tb_sgeti {α : Type} (T l : List α) (o i : Nat) (x : α) : (T.set o x ++ l)[T.length + i]? = l[i]? := by
  have := tb_geti (T.set o x) l i; rwa [List.length_set] at this
theorem tb_sget0 {α : Type} (T l : List α) (o : Nat) (x a : α) : (T.set o x ++ a :: l)[T.length]? = some a := by
  have := tb_get0 (T.set o x) l a; rwa [List.length_set] at this
theorem tb_sseti {α : Type} (T l : List α) (o i : Nat) (x y : α) : (T.set o x ++ l).set (T.length + i) y = T.set o x ++ l.set i y := by
  have := tb_seti (T.set o x) l i y; rwa [List.length_set] at this
theorem tb_sset0 {α : Type} (T l : List α) (o : Nat) (x a y : α) : (T.set o x ++ a :: l).set T.length y = T.set o x ++ y :: l := by
  have := tb_set0 (T.set o x) l a y; rwa [List.length_set] at this
theorem tb_lt {α : Type} {T : List α} {q : Nat} {x : α} (h : T[q]? = some x) : q < T.length := (List.getElem?_eq_some_iff.1 h).1
/-- What is known of an object holds with more objects behind. -/
theorem tb_f {α : Type} {T : List α} {q : Nat} {x : α} (h : T[q]? = some x) (l : List α) : (T ++ l)[q]? = some x := by
  rw [List.getElem?_append_left (tb_lt h)]; exact h
theorem tb_sf {α : Type} {T : List α} {q : Nat} {x : α} (h : T[q]? = some x) (l : List α) (y : α) : (T ++ l).set q y = T.set q y ++ l := List.set_append_left _ _ (tb_lt h)
theorem tb_ss {α : Type} {T : List α} {q : Nat} {x : α} (h : T[q]? = some x) (y : α) : (T.set q y)[q]? = some y := List.getElem?_set_self (tb_lt h)
theorem tb_ssl {α : Type} {T : List α} {q : Nat} {x : α} (h : T[q]? = some x) (y : α) (l : List α) : (T.set q y ++ l)[q]? = some y := tb_f (tb_ss h y) l
theorem tb_sfl {α : Type} {T : List α} {q : Nat} {x : α} (h : T[q]? = some x) (z y : α) (l : List α) : (T.set q z ++ l).set q y = T.set q y ++ l := by
  rw [tb_sf (tb_ss h z), List.set_set]
/-- It's another object. -/
theorem tb_ne {α : Type} {T : List α} {k j : Nat} {x : α} (h : T[k]? = some x) (y : α) (hne : k ≠ j) : (T.set j y)[k]? = some x := by rw [List.getElem?_set_ne (Ne.symm hne)]; exact h
def idO (E : Prg) (st : St) (p : Opd) : Option Opd → Prop
  | none => True
  | some y => idNe (Opd.ev E st y) (Opd.ev E st p)
theorem idO_none (E : Prg) (st : St) (p : Opd) : idO E st p none = True := nrfl _
theorem idO_some (E : Prg) (st : St) (p y : Opd) : idO E st p (some y) = idNe (Opd.ev E st y) (Opd.ev E st p) := nrfl _
theorem clearOf_slice (E : Prg) (st : St) (sz : Nat) (x p : Opd) (lo hi mx : Option Opd) : clearOf E st (.slice sz x lo hi mx) p = (idNe (Opd.ev E st x) (Opd.ev E st p) ∧ idO E st p lo ∧ idO E st p hi ∧ idO E st p mx) := by
  cases lo <;> cases hi <;> cases mx <;> simp [clearOf, ROp.opds, optOpd, idNe, idO]
theorem tb_clear : type_of% (And.intro @idO_none <| And.intro @idO_some <| @clearOf_slice) := And.intro @idO_none <| And.intro @idO_some <| @clearOf_slice
theorem tb_at : type_of% (And.intro @tb_clear <| And.intro @tb_geti <| And.intro @tb_get0 <| And.intro @tb_seti <| And.intro @tb_set0 <| And.intro @tb_sgeti <| And.intro @tb_sget0 <| And.intro @tb_sseti <| @tb_sset0) :=
  And.intro @tb_clear <| And.intro @tb_geti <| And.intro @tb_get0 <| And.intro @tb_seti <| And.intro @tb_set0 <| And.intro @tb_sgeti <| And.intro @tb_sget0 <| And.intro @tb_sseti <| @tb_sset0
/-- All that simp is to know of an object. -/
theorem tb_all {T : Objs} {q : Nat} {x : Option Ob} (h : T[q]? = some x) : type_of% (And.intro h <| And.intro (tb_f h) <| And.intro (tb_sf h) <| And.intro (tb_ss h) <| And.intro (tb_ssl h) <| tb_sfl h) :=
  And.intro h <| And.intro (tb_f h) <| And.intro (tb_sf h) <| And.intro (tb_ss h) <| And.intro (tb_ssl h) <| tb_sfl h
/-- Other objects are as they were. -/
def Keep (T T' : Objs) (ids : List Nat) : Prop := T.length ≤ T'.length ∧ ∀ (k : Nat) ob, k ∉ ids → T[k]? = some (some ob) → T'[k]? = some (some ob)
theorem Keep.refl (T : Objs) (ids : List Nat) : Keep T T ids := ⟨Nat.le_refl _, fun _ _ _ h => h⟩
theorem Keep.app (T l : Objs) (ids : List Nat) : Keep T (T ++ l) ids := ⟨by simp, fun _ _ _ h => tb_f h l⟩
theorem Keep.trans {A B C : Objs} {i j k : List Nat} (h1 : Keep A B i) (h2 : Keep B C j) (hi : ∀ x ∈ i, x ∈ k) (hj : ∀ x ∈ j, x ∈ k ∨ A.length ≤ x) : Keep A C k :=
  ⟨Nat.le_trans h1.1 h2.1, fun x ob hx ha => h2.2 x ob (fun hm => by
    rcases hj x hm with h | h
    · exact hx h
    · have := tb_lt ha; omega) (h1.2 x ob (fun hm => hx (hi x hm)) ha)⟩
theorem Keep.new {A B C : Objs} {j : List Nat} (h1 : Keep A B []) (h2 : Keep B C j) (hj : ∀ x ∈ j, A.length ≤ x) : Keep A C [] := h1.trans h2 (by simp) fun x hx => .inr (hj x hx)
theorem Keep.newApp {A B : Objs} (h1 : Keep A B []) (l : Objs) : Keep A (B ++ l) [] := h1.trans (Keep.app B l []) (by simp) (by simp)
theorem Keep.at {A B : Objs} {i : List Nat} (h : Keep A B i) {k : Nat} {ob : Ob} (ha : A[k]? = some (some ob)) (hk : k ∉ i) : B[k]? = some (some ob) := h.2 k ob hk ha
end Go.Proofs.Ytaopaongpoecoaa
