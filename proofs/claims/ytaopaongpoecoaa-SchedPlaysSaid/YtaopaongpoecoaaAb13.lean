/- What is to be shown of code, as a formula that simp unfolds from the front. -/
import Derived.Test.YtaopaongpoecoaaAb12
set_option linter.unusedVariables false
set_option linter.unusedSimpArgs false
namespace Go.Proofs.Ytaopaongpoecoaa
open Go.RowKit

/-- A mark: simp leaves alone what an instance of it is about. -/
class Tg {α : Sort _} (a : α) : Type where
  z : Unit
instance tg_inst {α : Sort _} (a : α) : Tg a := ⟨()⟩
/-- The value, if there is one, is so. -/
def bindO {α : Type} (x : Option α) (f : α → Prop) [Tg f] (_ : True := trivial) : Prop :=
  match (generalizing := false) x with
  | some y => f y
  | none => False
theorem bindO_some {α : Type} (y : α) (f : α → Prop) : bindO (some y) f = f y := rfl
theorem bindO_none {α : Type} (f : α → Prop) : bindO none f = False := rfl
theorem bindO_ite {α : Type} (c : Prop) [Decidable c] (x : Option α) (f : α → Prop) : bindO (if c then x else none) f = (c ∧ bindO x f) := by
  by_cases h : c <;> simp [h, bindO]
theorem bindO_map {α β : Type} (x : Option α) (g : α → β) (f : β → Prop) : bindO (x.map g) f = bindO x fun a => f (g a) := by cases x <;> rfl
theorem bindO_bind {α β : Type} (x : Option α) (g : α → Option β) (f : β → Prop) : bindO (x.bind g) f = bindO x fun a => bindO (g a) f := by cases x <;> rfl
theorem bindO_ex {α : Type} (x : Option α) (f : α → Prop) : bindO x f = ∃ y, x = some y ∧ f y := by cases x <;> simp [bindO]
theorem bindO_intro {α : Type} {x : Option α} {y : α} {f : α → Prop} (h : x = some y) (hf : f y) : bindO x f := by rw [h]; exact hf

/-- One or the other. -/
def cnd (b : Bool) (p q : Prop) : Prop := if b = true then p else q
@[congr] theorem cnd_congr {b : Bool} {c : Unit → Bool} {p q : Prop} (h : ∀ u, b = c u) : cnd b p q = cnd (c ()) p q := by rw [← h ()]
theorem cnd_true (p q : Prop) : cnd true p q = p := if_pos rfl
theorem cnd_false (p q : Prop) : cnd false p q = q := if_neg (by simp)
theorem cnd_dec (c : Prop) [Decidable c] (p q : Prop) : cnd (decide c) p q = ((c → p) ∧ (¬ c → q)) := by
  by_cases h : c <;> simp [h, cnd]
theorem cnd_not (b : Bool) (p q : Prop) : cnd (!b) p q = cnd b q p := by cases b <;> simp [cnd]
theorem cnd_and (a b : Bool) (p q : Prop) : cnd (a && b) p q = cnd a (cnd b p q) q := by cases a <;> simp [cnd]
theorem cnd_or (a b : Bool) (p q : Prop) : cnd (a || b) p q = cnd a p (cnd b p q) := by cases a <;> simp [cnd]
theorem cnd_gen (b : Bool) (p q : Prop) : cnd b p q = ((b = true → p) ∧ (b = false → q)) := by cases b <;> simp [cnd]

def natO (st : St) (E : Prg) (dflt : Nat) : Option Opd → Option Nat
  | none => some dflt
  | some x => match x.ev E st with
    | .int _ n => if 0 ≤ n then some n.toNat else none
    | _ => none
theorem natO_eq (st : St) (E : Prg) (dflt : Nat) (x : Option Opd) : natO st E dflt x = natOf st E dflt x := by cases x <;> rfl

/-- An operation's value, told so that it unfolds. -/
def rvl (E : Prg) (st : St) : ROp → Option (DV × Objs)
  | .load ag sz x => match x.ev E st with
    | .ptr o i j => (st.objs[o]?).bind fun x => x.bind fun ob => (ob.rows[i]?).bind fun row => (rowAt ag sz row j).map (·, st.objs)
    | .rp row j => (rowAt ag sz row j).map (·, st.objs)
    | _ => none
  | .store sz p x => match p.ev E st with
    | .ptr o i j => ((x.ev E st).cells).bind fun cs => (st.objs[o]?).bind fun x => x.bind fun ob => (ob.rows[i]?).bind fun row =>
      if cs.length = sz ∧ cs.all DV.one = true ∧ j + sz ≤ row.length then some (.undef, st.objs.set o (some (ob.setRow i (rowSet row j cs)))) else none
    | _ => none
  | .conv .b2s x => match x.ev E st with
    | .str _ => none
    | d => (rowsOf st d).bind fun y => if y.1 = 1 ∨ y.2 = [] then (rowsBytes y.2).map fun s => (.str s, st.objs) else none
  | .slice sz x lo hi mx => match x.ev E st with
    | .sl s rows k => (natO st E 0 lo).bind fun l => (natO st E rows.length hi).bind fun h => if l ≤ h ∧ h ≤ rows.length ∧ (s = sz ∨ rows = []) then (match mx with
        | none => some (.sl s ((rows.drop l).take (h - l)) k, st.objs)
        | some m => (natO st E 0 (some m)).bind fun m => if m = h then some (.sl s ((rows.drop l).take (h - l)) (if m = l then (if k = .nil then .nil else .zero) else (if k = .nil then .nil else .any)), st.objs) else none) else none
    | .own o off n => match mx with
      | none => (natO st E 0 lo).bind fun l => (natO st E n hi).bind fun h => (st.objs[o]?).bind fun x => x.bind fun ob => match ob with
        | .arr s rows => if l ≤ h ∧ h ≤ n ∧ s = sz then some (.own o (off + l) (h - l), st.objs) else none
        | _ => none
      | some _ => none
    | _ => none
  | .sliceS x lo hi => match x.ev E st with
    | .str s => (natO st E 0 lo).bind fun l => (natO st E s.length hi).bind fun h => if l ≤ h ∧ h ≤ s.length then some (.str ((s.drop l).take (h - l)), st.objs) else none
    | _ => none
  | .iaddr sz x i => match x.ev E st, i.ev E st with
    | .sl s rows _, .int _ n => if 0 ≤ n ∧ n < (rows.length : Int) ∧ s = sz then (rows[n.toNat]?).map fun row => (.rp row 0, st.objs) else none
    | .own o off m, .int _ n => if 0 ≤ n ∧ n < (m : Int) then (st.objs[o]?).bind fun x => x.bind fun ob => match ob with
        | .arr s _ => if s = sz then some (.ptr o (off + n.toNat) 0, st.objs) else none
        | _ => none
      else none
    | _, _ => none
  | .idxS x i => match x.ev E st, i.ev E st with
    | .str s, .int _ n => if 0 ≤ n then (s[n.toNat]?).map fun b => (.int .u8 b.toNat, st.objs) else none
    | _, _ => none
  | .append sz bytes x y => match x.ev E st with
    | .sl _ [] k => (rowsOf st (y.ev E st)).bind fun a => if (k = .nil ∨ k = .zero) ∧ (a.1 = sz ∨ a.2 = []) ∧ a.2.length * bytes ≤ 140737488355328 ∧ a.2.length ≤ 4611686018427387904 then
        some (.own st.objs.length 0 a.2.length, st.objs ++ [some (.arr sz a.2)]) else none
    | .own o off n => (rowsOf st (y.ev E st)).bind fun a => (st.objs[o]?).bind fun x => x.bind fun ob => match ob with
      | .arr s rows => if off + n = rows.length ∧ s = sz ∧ (a.1 = sz ∨ a.2 = []) ∧ (n + a.2.length) * bytes ≤ 140737488355328 ∧ n + a.2.length ≤ 4611686018427387904 then
          some (.own st.objs.length 0 (n + a.2.length), st.objs.set o none ++ [some (.arr sz (rows.drop off ++ a.2))]) else none
      | _ => none
    | _ => none
  | op => rval E st op

theorem rvl_eq (E : Prg) (st : St) (op : ROp) : rvl E st op = rval E st op := by
  cases op <;> try rfl
  case load ag sz x =>
    simp only [rvl, rval]
    cases x.ev E st <;> try rfl
    rename_i o i j
    dsimp only
    generalize st.objs[o]? = z
    rcases z with _ | _ | ob <;> try rfl
    simp only [Option.bind]
    generalize ob.rows[i]? = y
    cases y <;> rfl
  case store sz p x =>
    simp only [rvl, rval]
    cases p.ev E st <;> try rfl
    rename_i o i j
    cases (x.ev E st).cells <;> try rfl
    rename_i cs
    simp only [Option.bind]
    generalize st.objs[o]? = z
    rcases z with _ | _ | ob <;> try rfl
    dsimp only
    generalize ob.rows[i]? = y
    cases y <;> rfl
  case conv k x =>
    cases k <;> try rfl
    simp only [rvl, rval]
    cases hx : x.ev E st <;> try rfl
    · rename_i o off n
      dsimp only
      generalize rowsOf st (.own o off n) = z
      rcases z with _ | ⟨a, b⟩ <;> rfl
  case slice sz x lo hi mx =>
    simp only [rvl, rval, natO_eq]
    cases hx : x.ev E st <;> try rfl
    · rename_i s rows k
      dsimp only
      generalize natOf st E 0 lo = l
      generalize natOf st E rows.length hi = h
      cases l <;> cases h <;> try rfl
      simp only [Option.bind]
      cases mx with
      | none => rfl
      | some m =>
        dsimp only
        generalize natOf st E 0 (some m) = y
        cases y <;> rfl
    · rename_i o off n
      dsimp only
      generalize natOf st E 0 lo = l
      generalize natOf st E n hi = h
      cases mx with
      | some m => cases l <;> cases h <;> rfl
      | none =>
        cases l <;> cases h <;> try rfl
        simp only [Option.bind]
        generalize st.objs[o]? = z
        rcases z with _ | _ | ob <;> try rfl
        cases ob <;> rfl
  case sliceS x lo hi =>
    simp only [rvl, rval, natO_eq]
    cases hx : x.ev E st <;> try rfl
    rename_i s
    dsimp only
    generalize natOf st E 0 lo = l
    generalize natOf st E s.length hi = h
    cases l <;> cases h <;> rfl
  case iaddr sz x i =>
    simp only [rvl, rval]
    cases hx : x.ev E st <;> cases hi : i.ev E st <;> try rfl
    · rename_i s rows k k' n
      dsimp only
      generalize rows[n.toNat]? = y
      cases y <;> rfl
    · rename_i o off m k' n
      dsimp only
      generalize st.objs[o]? = z
      rcases z with _ | _ | ob <;> try rfl
      cases ob <;> rfl
  case idxS x i =>
    simp only [rvl, rval]
    cases hx : x.ev E st <;> cases hi : i.ev E st <;> try rfl
    rename_i s k' n
    dsimp only
    generalize s[n.toNat]? = y
    cases y <;> rfl
  case append sz bytes x y =>
    simp only [rvl, rval]
    cases hx : x.ev E st <;> try rfl
    · rename_i s rows k
      cases rows with
      | nil =>
        dsimp only
        generalize rowsOf st (y.ev E st) = z
        cases z <;> rfl
      | cons a l => rfl
    · rename_i o off n
      dsimp only
      generalize rowsOf st (y.ev E st) = z
      cases z <;> try rfl
      simp only [Option.bind]
      generalize st.objs[o]? = z
      rcases z with _ | _ | ob <;> try rfl
      cases ob <;> rfl

def wk0 : DV → DV → Prop
  | .sl sz rows k, .sl sz2 rows2 k2 => rows = rows2 ∧ (k2 = .any ∨ k = k2) ∧ (sz = sz2 ∨ rows = [])
  | d, d2 => d = d2
def wkL (p : DV → DV → Prop) : List DV → List DV → Prop
  | [], [] => True
  | a :: l, b :: m => p a b ∧ wkL p l m
  | _, _ => False
def wkA : DV → DV → Prop
  | .agg a, .agg b => wkL wk0 a b
  | d, d2 => wk0 d d2
def wkT : DV → DV → Prop
  | .tup a, .tup b => wkL wkA a b
  | d, d2 => wkA d d2

theorem SK.ok_any (k : SK) (p : Option Addr) (c : Nat) (h : k.ok p c) : SK.ok .any p c := fun hp => by
  subst hp
  cases k with
  | any => exact h rfl
  | nil => exact h.2
  | nonnil => cases h
  | zero => exact h
theorem wk0_rel {d d2 : DV} (h : wk0 d d2) {G : Gh} {v : Value} (r : Rel G d v) : Rel G d2 v := by
  unfold wk0 at h
  split at h
  · rename_i sz rows k sz2 rows2 k2
    obtain ⟨rfl, h2, h3⟩ := h
    cases r with
    | sl sz rows k p len cap b o vals a1 a2 a3 a4 a5 a6 a7 =>
      have hk : k2.ok p cap := by
        rcases h2 with rfl | rfl
        · exact SK.ok_any _ _ _ a2
        · exact a2
      rcases h3 with rfl | rfl
      · exact .sl _ rows k2 p len cap b o vals a1 hk a3 a4 a5 a6 a7
      · exact .sl sz2 [] k2 p len cap b o vals a1 hk a3 a4 (by simp) (by simp) (by simp)
  · subst h; exact r
theorem wkL_get {p : DV → DV → Prop} : ∀ {a b : List DV}, wkL p a b → a.length = b.length ∧ ∀ (i : Nat) d, b[i]? = some d → ∃ c, a[i]? = some c ∧ p c d
  | [], [], _ => ⟨rfl, by simp⟩
  | x :: a, y :: b, h => by
    obtain ⟨h1, h2⟩ := wkL_get h.2
    refine ⟨by simp [h1], fun i d hd => ?_⟩
    rcases i with _ | i
    · simp at hd; subst hd; exact ⟨x, rfl, h.1⟩
    · simpa using h2 i d (by simpa using hd)
  | [], _ :: _, h => h.elim
  | _ :: _, [], h => h.elim
theorem wkA_rel {d d2 : DV} (h : wkA d d2) {G : Gh} {v : Value} (r : Rel G d v) : Rel G d2 v := by
  unfold wkA at h
  split at h
  · obtain ⟨h1, h2⟩ := wkL_get h
    cases r with
    | agg cs vs a1 a2 => exact .agg _ vs (a1.trans h1) fun i d hd => let ⟨c, hc, hw⟩ := h2 i d hd; wk0_rel hw (a2 i c hc)
  · exact wk0_rel h r
theorem wkT_rel {d d2 : DV} (h : wkT d d2) {G : Gh} {v : Value} (r : Rel G d v) : Rel G d2 v := by
  unfold wkT at h
  split at h
  · obtain ⟨h1, h2⟩ := wkL_get h
    cases r with
    | tup cs vs a1 a2 => exact .tup _ vs (a1.trans h1) fun i d hd => let ⟨c, hc, hw⟩ := h2 i d hd; wkA_rel hw (a2 i c hc)
  · exact wkA_rel h r

theorem wk0_refl (d : DV) : wk0 d d := by
  cases d <;> first | exact rfl | exact ⟨rfl, .inr rfl, .inl rfl⟩
theorem wkL_refl {p : DV → DV → Prop} (hp : ∀ d, p d d) : ∀ l : List DV, wkL p l l
  | [] => trivial
  | c :: l => ⟨hp c, wkL_refl hp l⟩
theorem wkA_refl (d : DV) : wkA d d := by
  cases d <;> first | exact rfl | exact ⟨rfl, .inr rfl, .inl rfl⟩ | exact wkL_refl wk0_refl _
theorem wkT_refl (d : DV) : wkT d d := by
  cases d <;> first | exact rfl | exact ⟨rfl, .inr rfl, .inl rfl⟩ | exact wkL_refl wk0_refl _ | exact wkL_refl wkA_refl _

end Go.Proofs.Ytaopaongpoecoaa
