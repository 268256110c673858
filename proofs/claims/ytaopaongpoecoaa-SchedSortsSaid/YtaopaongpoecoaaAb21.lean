/- Simp's lemmas for results, weaker states. (Printed by wip/tools/gen21.py.) -/
import Derived.Test.YtaopaongpoecoaaAb20
set_option linter.unusedVariables false
set_option linter.unusedSimpArgs false
namespace Go.Proofs.Ytaopaongpoecoaa
open Go.RowKit

def allP (p : DV → Prop) : List DV → Prop
  | [] => True
  | c :: l => p c ∧ allP p l
theorem allP_eq (p : DV → Prop) : ∀ l : List DV, allP p l = ∀ c ∈ l, p c
  | [] => by simp [allP]
  | c :: l => by simp [allP, allP_eq p l]
def notIn (a : Nat) : List Nat → Prop
  | [] => True
  | b :: l => ¬ a = b ∧ notIn a l
theorem notIn_eq (a : Nat) : ∀ l : List Nat, notIn a l = (a ∉ l)
  | [] => by simp [notIn]
  | b :: l => by simp [notIn, notIn_eq a l]
def ndup : List Nat → Prop
  | [] => True
  | a :: l => notIn a l ∧ ndup l
theorem ndup_eq : ∀ l : List Nat, ndup l = l.Nodup
  | [] => by simp [ndup]
  | a :: l => by simp [ndup, ndup_eq l, notIn_eq]
theorem ids0_int (k : IntKind) (v : Int) : ids0 (.int k v) = [] := nrfl _
theorem idsA_int (k : IntKind) (v : Int) : idsA (.int k v) = [] := nrfl _
theorem idsT_int (k : IntKind) (v : Int) : idsT (.int k v) = [] := nrfl _
theorem can0_int (n : Nat) (ids : List Nat) (k : IntKind) (v : Int) : can0 n ids (.int k v) = .int k v := nrfl _
theorem canA_int (n : Nat) (ids : List Nat) (k : IntKind) (v : Int) : canA n ids (.int k v) = .int k v := nrfl _
theorem canT_int (n : Nat) (ids : List Nat) (k : IntKind) (v : Int) : canT n ids (.int k v) = .int k v := nrfl _
theorem cl0_int (k : IntKind) (v : Int) : cl0 (.int k v) = True := nrfl _
theorem clA_int (k : IntKind) (v : Int) : clA (.int k v) = True := nrfl _
theorem clT_int (k : IntKind) (v : Int) : clT (.int k v) = True := nrfl _
theorem ids0_bool (b : Bool) : ids0 (.bool b) = [] := nrfl _
theorem idsA_bool (b : Bool) : idsA (.bool b) = [] := nrfl _
theorem idsT_bool (b : Bool) : idsT (.bool b) = [] := nrfl _
theorem can0_bool (n : Nat) (ids : List Nat) (b : Bool) : can0 n ids (.bool b) = .bool b := nrfl _
theorem canA_bool (n : Nat) (ids : List Nat) (b : Bool) : canA n ids (.bool b) = .bool b := nrfl _
theorem canT_bool (n : Nat) (ids : List Nat) (b : Bool) : canT n ids (.bool b) = .bool b := nrfl _
theorem cl0_bool (b : Bool) : cl0 (.bool b) = True := nrfl _
theorem clA_bool (b : Bool) : clA (.bool b) = True := nrfl _
theorem clT_bool (b : Bool) : clT (.bool b) = True := nrfl _
theorem ids0_str (s : List UInt8) : ids0 (.str s) = [] := nrfl _
theorem idsA_str (s : List UInt8) : idsA (.str s) = [] := nrfl _
theorem idsT_str (s : List UInt8) : idsT (.str s) = [] := nrfl _
theorem can0_str (n : Nat) (ids : List Nat) (s : List UInt8) : can0 n ids (.str s) = .str s := nrfl _
theorem canA_str (n : Nat) (ids : List Nat) (s : List UInt8) : canA n ids (.str s) = .str s := nrfl _
theorem canT_str (n : Nat) (ids : List Nat) (s : List UInt8) : canT n ids (.str s) = .str s := nrfl _
theorem cl0_str (s : List UInt8) : cl0 (.str s) = True := nrfl _
theorem clA_str (s : List UInt8) : clA (.str s) = True := nrfl _
theorem clT_str (s : List UInt8) : clT (.str s) = True := nrfl _
theorem ids0_sl (sz : Nat) (rows : List (List DV)) (k : SK) : ids0 (.sl sz rows k) = [] := nrfl _
theorem idsA_sl (sz : Nat) (rows : List (List DV)) (k : SK) : idsA (.sl sz rows k) = [] := nrfl _
theorem idsT_sl (sz : Nat) (rows : List (List DV)) (k : SK) : idsT (.sl sz rows k) = [] := nrfl _
theorem can0_sl (n : Nat) (ids : List Nat) (sz : Nat) (rows : List (List DV)) (k : SK) : can0 n ids (.sl sz rows k) = .sl sz rows k := nrfl _
theorem canA_sl (n : Nat) (ids : List Nat) (sz : Nat) (rows : List (List DV)) (k : SK) : canA n ids (.sl sz rows k) = .sl sz rows k := nrfl _
theorem canT_sl (n : Nat) (ids : List Nat) (sz : Nat) (rows : List (List DV)) (k : SK) : canT n ids (.sl sz rows k) = .sl sz rows k := nrfl _
theorem cl0_sl (sz : Nat) (rows : List (List DV)) (k : SK) : cl0 (.sl sz rows k) = ClRows rows := nrfl _
theorem clA_sl (sz : Nat) (rows : List (List DV)) (k : SK) : clA (.sl sz rows k) = ClRows rows := nrfl _
theorem clT_sl (sz : Nat) (rows : List (List DV)) (k : SK) : clT (.sl sz rows k) = ClRows rows := nrfl _
theorem ids0_own (o off m : Nat) : ids0 (.own o off m) = [o] := nrfl _
theorem idsA_own (o off m : Nat) : idsA (.own o off m) = [o] := nrfl _
theorem idsT_own (o off m : Nat) : idsT (.own o off m) = [o] := nrfl _
theorem can0_own (n : Nat) (ids : List Nat) (o off m : Nat) : can0 n ids (.own o off m) = .own (n + pos o ids) off m := nrfl _
theorem canA_own (n : Nat) (ids : List Nat) (o off m : Nat) : canA n ids (.own o off m) = .own (n + pos o ids) off m := nrfl _
theorem canT_own (n : Nat) (ids : List Nat) (o off m : Nat) : canT n ids (.own o off m) = .own (n + pos o ids) off m := nrfl _
theorem cl0_own (o off m : Nat) : cl0 (.own o off m) = True := nrfl _
theorem clA_own (o off m : Nat) : clA (.own o off m) = True := nrfl _
theorem clT_own (o off m : Nat) : clT (.own o off m) = True := nrfl _
theorem ids0_ptr (o i j : Nat) : ids0 (.ptr o i j) = [o] := nrfl _
theorem idsA_ptr (o i j : Nat) : idsA (.ptr o i j) = [o] := nrfl _
theorem idsT_ptr (o i j : Nat) : idsT (.ptr o i j) = [o] := nrfl _
theorem can0_ptr (n : Nat) (ids : List Nat) (o i j : Nat) : can0 n ids (.ptr o i j) = .ptr (n + pos o ids) i j := nrfl _
theorem canA_ptr (n : Nat) (ids : List Nat) (o i j : Nat) : canA n ids (.ptr o i j) = .ptr (n + pos o ids) i j := nrfl _
theorem canT_ptr (n : Nat) (ids : List Nat) (o i j : Nat) : canT n ids (.ptr o i j) = .ptr (n + pos o ids) i j := nrfl _
theorem cl0_ptr (o i j : Nat) : cl0 (.ptr o i j) = True := nrfl _
theorem clA_ptr (o i j : Nat) : clA (.ptr o i j) = True := nrfl _
theorem clT_ptr (o i j : Nat) : clT (.ptr o i j) = True := nrfl _
theorem idsA_agg (cs : List DV) : idsA (.agg cs) = cs.flatMap ids0 := nrfl _
theorem idsT_agg (cs : List DV) : idsT (.agg cs) = cs.flatMap ids0 := nrfl _
theorem idsT_tup (cs : List DV) : idsT (.tup cs) = cs.flatMap idsA := nrfl _
theorem canA_agg (n : Nat) (ids : List Nat) (cs : List DV) : canA n ids (.agg cs) = .agg (cs.map (can0 n ids)) := nrfl _
theorem canT_agg (n : Nat) (ids : List Nat) (cs : List DV) : canT n ids (.agg cs) = .agg (cs.map (can0 n ids)) := nrfl _
theorem canT_tup (n : Nat) (ids : List Nat) (cs : List DV) : canT n ids (.tup cs) = .tup (cs.map (canA n ids)) := nrfl _
theorem clA_agg (cs : List DV) : clA (.agg cs) = allP cl0 cs := by simp [clA, allP_eq]
theorem clT_agg (cs : List DV) : clT (.agg cs) = allP cl0 cs := by simp [clT, clA, allP_eq]
theorem clT_tup (cs : List DV) : clT (.tup cs) = allP clA cs := by simp [clT, allP_eq]
theorem pos_nil (o : Nat) : pos o [] = 0 := nrfl _
theorem pos_cons (o a : Nat) (l : List Nat) : pos o (a :: l) = if a = o then 0 else pos o l + 1 := nrfl _
theorem clOb_arr (sz : Nat) (rows : List (List DV)) : clOb (.arr sz rows) = ClRows rows := nrfl _
theorem clOb_box (cs : List DV) : clOb (.box cs) = allP Cl cs := by simp [clOb, allP_eq]
theorem allP_nil (p : DV → Prop) : allP p [] = True := nrfl _
theorem allP_cons (p : DV → Prop) (c : DV) (l : List DV) : allP p (c :: l) = (p c ∧ allP p l) := nrfl _
theorem ndup_nil  : ndup [] = True := nrfl _
theorem ndup_cons (a : Nat) (l : List Nat) : ndup (a :: l) = (notIn a l ∧ ndup l) := nrfl _
theorem notIn_nil (a : Nat) : notIn a [] = True := nrfl _
theorem notIn_cons (a b : Nat) (l : List Nat) : notIn a (b :: l) = (¬ a = b ∧ notIn a l) := nrfl _
theorem goIds_nil (n : Nat) (T : Objs) (k : Objs → Prop) : goIds n T [] k = k [] := nrfl _
theorem goIds_cons (n : Nat) (T : Objs) (i : Nat) (l : List Nat) (k : Objs → Prop) : goIds n T (i :: l) k = (n ≤ i ∧ bindO T[i]? fun x => bindO x fun ob => clOb ob ∧ goIds n T l fun os => k (some ob :: os)) := nrfl _
theorem retV_eq (n : Nat) (d : DV) (T : Objs) (K : DV → Objs → Prop) : retV n d T K = (ndup (idsT d) ∧ clT d ∧ goIds n T (idsT d) fun os => K (canT n (idsT d) d) os) := by simp [retV, ndup_eq]
theorem ClRows_cons (row : List DV) (l : List (List DV)) : ClRows (row :: l) = (allP Cl row ∧ ClRows l) := by simp [ClRows, allP_eq]
theorem ClRows_nil_eq  : ClRows [] = True := eq_true ClRows_nil
theorem ClRows_int_eq (k : IntKind) (l : List Int) : ClRows (intRows k l) = True := eq_true (ClRows_int k l)
theorem ClRows_one_eq (k : IntKind) (v : Int) : ClRows [[.int k v]] = True := eq_true (ClRows_int k [v])
theorem Cl_int_eq (k : IntKind) (v : Int) : Cl (.int k v) = True := eq_true (Cl.int k v)
theorem Cl_bool_eq (b : Bool) : Cl (.bool b) = True := eq_true (Cl.bool b)
theorem Cl_str_eq (s : List UInt8) : Cl (.str s) = True := eq_true (Cl.str s)
theorem wk_mk (e e2 : List (Nat × DV)) (o o2 : Objs) : St.wk ⟨e, o⟩ ⟨e2, o2⟩ = (envWk e e2 ∧ objsWk o o2) := nrfl _
theorem envWk_nil (e : List (Nat × DV)) : envWk e [] = True := by simp [envWk]
theorem envWk_cons {e : List (Nat × DV)} {t : Nat} {d : DV} {l : List (Nat × DV)} : envWk e ((t, d) :: l) = ((d = .undef ∨ wkT (St.look t e) d) ∧ envWk e l) := by
  simp [envWk]
theorem forall_nil_eq {α : Type} (p : α → Prop) : (∀ c ∈ ([] : List α), p c) = True := by simp
theorem bindO_getI (l : List Int) (n : Nat) (f : Int → Prop) : bindO l[n]? f = (n < l.length ∧ f (l.getD n 0)) := by
  by_cases h : n < l.length
  · simp [List.getElem?_eq_getElem h, bindO, h]
  · simp [List.getElem?_eq_none (Nat.le_of_not_lt h), bindO, h]
theorem bindO_getU (l : List UInt8) (n : Nat) (f : UInt8 → Prop) : bindO l[n]? f = (n < l.length ∧ f (l.getD n 0)) := by
  by_cases h : n < l.length
  · simp [List.getElem?_eq_getElem h, bindO, h]
  · simp [List.getElem?_eq_none (Nat.le_of_not_lt h), bindO, h]
theorem objsWk_self (o : Objs) : objsWk o o = True := eq_true (objsWk_refl o)
theorem objsWk_nil : objsWk [] [] = True := nrfl _
theorem objsWk_none (a : Option Ob) (l m : Objs) : objsWk (a :: l) (none :: m) = objsWk l m := by simp [objsWk]
theorem objsWk_some (a b : Ob) (l m : Objs) : objsWk (some a :: l) (some b :: m) = (a = b ∧ objsWk l m) := by simp [objsWk]
theorem objsWk_app {a b : Objs} (c : Objs) (h : objsWk a b) : objsWk (c ++ a) (c ++ b) := by
  induction c with
  | nil => exact h
  | cons x c ih => exact ⟨.inr rfl, ih⟩
theorem objsWk_dead : ∀ (l : Objs), objsWk l (List.replicate l.length none)
  | [] => trivial
  | _ :: l => ⟨.inl rfl, objsWk_dead l⟩
theorem objsWk_app2 : ∀ {a b c d : Objs}, objsWk a b → objsWk c d → objsWk (a ++ c) (b ++ d)
  | [], [], c, d, _, h => h
  | _ :: a, _ :: b, c, d, h, h2 => ⟨h.1, objsWk_app2 h.2 h2⟩
  | [], _ :: _, _, _, h, _ => h.elim
  | _ :: _, [], _, _, h, _ => h.elim
/-- Behind dead ones: some more are dead. -/
theorem objsWk_RO {n m : Nat} {l a b : Objs} (h : objsWk a b) (hm : m = l.length) : objsWk (List.replicate n none ++ (l ++ a)) (List.replicate (n + m) none ++ b) := by
  subst hm
  rw [← List.replicate_append_replicate, List.append_assoc]
  exact objsWk_app _ (objsWk_app2 (objsWk_dead l) h)

end Go.Proofs.Ytaopaongpoecoaa
