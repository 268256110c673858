/- Results told with less; arguments of which it isn't known whether they are nil. -/
import Derived.Test.YtaopaongpoecoaaAb22
set_option linter.unusedVariables false
set_option linter.unusedSimpArgs false
namespace Go.Proofs.Ytaopaongpoecoaa
open Go.RowKit

theorem PCalls.weaken {E : Prg} {f : Nat} {args : List DV} {R R2 : Nat → DV → Objs → Prop} (h : PCalls E f args R) (hR : ∀ n r os, R n r os → ∃ r2, wkT r r2 ∧ R2 n r2 os) : PCalls E f args R2 := by
  intro n G w vs h1 h2 h3 h4
  refine Calls.mono (h n G w vs h1 h2 h3 h4) fun e w' ⟨v, r, T', G', a, ⟨os, ho, hr⟩, hl, hrel, hh, hf⟩ => ?_
  obtain ⟨r2, hw, hr2⟩ := hR n r os hr
  exact ⟨v, r2, T', G', a, ⟨os, ho, hr2⟩, hl, wkT_rel hw hrel, hh, hf⟩

/-- An argument of which less is known. -/
theorem PCalls.args {E : Prg} {f : Nat} {args args2 : List DV} {R : Nat → DV → Objs → Prop} (h : PCalls E f args R) (hl : args2.length = args.length) (hw : ∀ (G : Gh) (i : Nat) d2 v, args2[i]? = some d2 → Rel G d2 v → ∃ d, args[i]? = some d ∧ Rel G d v) : PCalls E f args2 R := by
  intro n G w vs h1 h2 h3 h4
  refine h n G w vs h1 h2 (h3.trans hl) fun i d hd => ?_
  have hi : i < args2.length := by rw [hl]; exact (List.getElem?_eq_some_iff.1 hd).1
  obtain ⟨d', hd', hr⟩ := hw G i args2[i] _ (List.getElem?_eq_getElem hi) (h4 i _ (List.getElem?_eq_getElem hi))
  rw [hd] at hd'
  obtain rfl := Option.some.inj hd'
  exact hr

/-- A slice is nil or it isn't. -/
theorem Rel.any_split {G : Gh} {sz : Nat} {rows : List (List DV)} {k : SK} {v : Value} (h : Rel G (.sl sz rows k) v) : (rows = [] ∧ Rel G (.sl sz rows .nil) v) ∨ Rel G (.sl sz rows .nonnil) v := by
  cases h with
  | sl sz rows k p len cap b o vals a1 a2 a3 a4 a5 a6 a7 =>
    cases p with
    | none =>
      have hr : rows = [] := by
        by_cases hr : rows = []
        · exact hr
        · cases a4 hr
      have hc : cap = 0 := by
        cases k with
        | any => exact a2 rfl
        | nil => exact a2.2
        | nonnil => cases a2
        | zero => exact a2
      exact .inl ⟨hr, .sl sz rows .nil none len cap b o vals a1 ⟨rfl, hc⟩ a3 a4 a5 a6 a7⟩
    | some x => exact .inr (.sl sz rows .nonnil _ len cap b o vals a1 rfl a3 a4 a5 a6 a7)

/-- What is shown of a nil slice and of one that isn't holds of any. -/
theorem PCalls.any_arg {E : Prg} {f : Nat} {i : Nat} {args : List DV} {sz : Nat} {rows : List (List DV)} {k : SK} {R : Nat → DV → Objs → Prop} (hi : args[i]? = some (.sl sz rows k)) (h1 : rows = [] → PCalls E f (args.set i (.sl sz rows .nil)) R) (h2 : PCalls E f (args.set i (.sl sz rows .nonnil)) R) : PCalls E f args R := by
  intro n G w vs g1 g2 g3 g4
  have hlt : i < args.length := (List.getElem?_eq_some_iff.1 hi).1
  have rest : ∀ x, Rel G x (vs.getD i undef) → ∀ (j : Nat) d, (args.set i x)[j]? = some d → Rel G d (vs.getD j undef) := fun x hx j d hd => by
    by_cases e : i = j
    · subst e
      rw [List.getElem?_set_self hlt] at hd
      obtain rfl := Option.some.inj hd
      exact hx
    · rw [List.getElem?_set_ne e] at hd
      exact g4 j d hd
  rcases (g4 i _ hi).any_split with ⟨hr, h⟩ | h
  · exact h1 hr n G w vs g1 g2 (by simpa using g3) (rest _ h)
  · exact h2 n G w vs g1 g2 (by simpa using g3) (rest _ h)

/-- A function's law, told by its code; what it makes is numbered by its result, which may be told with less. -/
theorem PCalls.by_fn {E : Prg} {F : FTab} (hF : FOk E F) {f : Nat} {ann : List Ann} {rf : RFn} {args : List DV} {res : Nat → DV × Objs} (hc : compFn E.P ann f = some rf) (hargs : args.length ≤ rf.n)
    (h : ∀ n, rf.code.wp E F rf.n (finQ rf.res fun d T' => n ≤ T'.length ∧ retV n d T' fun d' os => wkT d' (res n).1 ∧ os = (res n).2) ⟨initEnv 0 args, List.replicate n none⟩) : PCalls E f args fun n r os => r = (res n).1 ∧ os = (res n).2 := by
  have h1 : PCalls E f args fun n r os => wkT r (res n).1 ∧ os = (res n).2 := by
    intro n
    have h1 : GCalls E f args (List.replicate n none) fun r T' => retV n r T' fun d' os => wkT d' (res n).1 ∧ os = (res n).2 := by
      refine GCalls.of_fn hF hc hargs (RC.wp_mono _ (h n) fun e st hh => ?_)
      have key : ∀ st : St, (match resOf st rf.res with
          | some d => n ≤ st.objs.length ∧ retV n d st.objs fun d' os => wkT d' (res n).1 ∧ os = (res n).2
          | none => False) → (match resOf st rf.res with
          | some d => (List.replicate n (none : Option Ob)).length ≤ st.objs.length ∧ retV n d st.objs fun d' os => wkT d' (res n).1 ∧ os = (res n).2
          | none => False) := fun st hh => by
        cases hres : resOf st rf.res with
        | none => rw [hres] at hh; exact hh
        | some d => rw [hres] at hh; exact ⟨by simpa using hh.1, hh.2⟩
      cases e with
      | normal => exact key st hh
      | ret => exact key st hh
      | _ => exact hh
    exact (h1.canon fun r T' hr => by
      obtain ⟨g, r', os, hg, hK⟩ := retV_spec hr
      exact ⟨g, r', os, hg, os, rfl, hK⟩)
  exact h1.weaken fun n r os ⟨h1, h2⟩ => ⟨_, h1, rfl, h2⟩

theorem intRows_fold1 (k : IntKind) (a : Int) : [[DV.int k a]] = intRows k [a] := nrfl _
theorem intRows_foldc (k : IntKind) (a : Int) (l : List Int) : [DV.int k a] :: intRows k l = intRows k (a :: l) := nrfl _
theorem wkT_tup (a b : List DV) : wkT (.tup a) (.tup b) = wkL wkA a b := nrfl _
theorem wkT_agg (a b : List DV) : wkT (.agg a) (.agg b) = wkL wk0 a b := nrfl _
theorem wkA_agg (a b : List DV) : wkA (.agg a) (.agg b) = wkL wk0 a b := nrfl _
theorem wkL_nil (p : DV → DV → Prop) : wkL p [] [] = True := nrfl _
theorem wkL_cons (p : DV → DV → Prop) (x y : DV) (a b : List DV) : wkL p (x :: a) (y :: b) = (p x y ∧ wkL p a b) := nrfl _
theorem wkT_sl (sz : Nat) (rows : List (List DV)) (k : SK) (sz2 : Nat) (rows2 : List (List DV)) (k2 : SK) : wkT (.sl sz rows k) (.sl sz2 rows2 k2) = (rows = rows2 ∧ (k2 = .any ∨ k = k2) ∧ (sz = sz2 ∨ rows = [])) := nrfl _
theorem wkA_sl (sz : Nat) (rows : List (List DV)) (k : SK) (sz2 : Nat) (rows2 : List (List DV)) (k2 : SK) : wkA (.sl sz rows k) (.sl sz2 rows2 k2) = (rows = rows2 ∧ (k2 = .any ∨ k = k2) ∧ (sz = sz2 ∨ rows = [])) := nrfl _
theorem wk0_sl (sz : Nat) (rows : List (List DV)) (k : SK) (sz2 : Nat) (rows2 : List (List DV)) (k2 : SK) : wk0 (.sl sz rows k) (.sl sz2 rows2 k2) = (rows = rows2 ∧ (k2 = .any ∨ k = k2) ∧ (sz = sz2 ∨ rows = [])) := nrfl _
theorem wkT_int (k : IntKind) (n : Int) (d : DV) : wkT (.int k n) d = (DV.int k n = d) := nrfl _
theorem wkA_int (k : IntKind) (n : Int) (d : DV) : wkA (.int k n) d = (DV.int k n = d) := nrfl _
theorem wk0_int (k : IntKind) (n : Int) (d : DV) : wk0 (.int k n) d = (DV.int k n = d) := nrfl _
theorem wkT_bool (b : Bool) (d : DV) : wkT (.bool b) d = (DV.bool b = d) := nrfl _
theorem wkA_bool (b : Bool) (d : DV) : wkA (.bool b) d = (DV.bool b = d) := nrfl _
theorem wk0_bool (b : Bool) (d : DV) : wk0 (.bool b) d = (DV.bool b = d) := nrfl _
theorem wkT_str (s : List UInt8) (d : DV) : wkT (.str s) d = (DV.str s = d) := nrfl _
theorem wkA_str (s : List UInt8) (d : DV) : wkA (.str s) d = (DV.str s = d) := nrfl _
theorem wk0_str (s : List UInt8) (d : DV) : wk0 (.str s) d = (DV.str s = d) := nrfl _
theorem wkT_own (o off n : Nat) (d : DV) : wkT (.own o off n) d = (DV.own o off n = d) := nrfl _
theorem wkA_own (o off n : Nat) (d : DV) : wkA (.own o off n) d = (DV.own o off n = d) := nrfl _
theorem wk0_own (o off n : Nat) (d : DV) : wk0 (.own o off n) d = (DV.own o off n = d) := nrfl _
theorem wkT_ptr (o i j : Nat) (d : DV) : wkT (.ptr o i j) d = (DV.ptr o i j = d) := nrfl _
theorem wkA_ptr (o i j : Nat) (d : DV) : wkA (.ptr o i j) d = (DV.ptr o i j = d) := nrfl _

end Go.Proofs.Ytaopaongpoecoaa
