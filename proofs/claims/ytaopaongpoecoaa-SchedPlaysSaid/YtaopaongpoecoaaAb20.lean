/- Results by their own names, so that simp unfolds them; tables behind dead objects; rows of numbers. -/
import Derived.Test.YtaopaongpoecoaaAb19
import Derived.IntWalk
set_option linter.unusedVariables false
set_option linter.unusedSimpArgs false
namespace Go.Proofs.Ytaopaongpoecoaa
open Go.RowKit

def ClRows (rows : List (List DV)) : Prop := ∀ row ∈ rows, ∀ c ∈ row, Cl c
def ids0 : DV → List Nat
  | .own o _ _ => [o]
  | .ptr o _ _ => [o]
  | _ => []
def idsA : DV → List Nat
  | .agg cs => cs.flatMap ids0
  | .wrap _ cs => cs.flatMap ids0
  | d => ids0 d
def idsT : DV → List Nat
  | .tup cs => cs.flatMap idsA
  | d => idsA d
def pos (o : Nat) : List Nat → Nat
  | [] => 0
  | a :: l => if a = o then 0 else pos o l + 1
def can0 (n : Nat) (ids : List Nat) : DV → DV
  | .own o off m => .own (n + pos o ids) off m
  | .ptr o i j => .ptr (n + pos o ids) i j
  | d => d
def canA (n : Nat) (ids : List Nat) : DV → DV
  | .agg cs => .agg (cs.map (can0 n ids))
  | .wrap w cs => .wrap w (cs.map (can0 n ids))
  | d => can0 n ids d
def canT (n : Nat) (ids : List Nat) : DV → DV
  | .tup cs => .tup (cs.map (canA n ids))
  | d => canA n ids d
def cl0 : DV → Prop
  | .int .. | .bool .. | .str .. | .own .. | .ptr .. | .undef | .lit _ => True
  | .sl _ rows _ => ClRows rows
  | d => Cl d
def clA : DV → Prop
  | .agg cs => ∀ c ∈ cs, cl0 c
  | .wrap _ cs => ∀ c ∈ cs, cl0 c
  | d => cl0 d
def clT : DV → Prop
  | .tup cs => ∀ c ∈ cs, clA c
  | d => clA d
def clOb : Ob → Prop
  | .box cs => ∀ c ∈ cs, Cl c
  | .arr _ rows => ClRows rows

def goIds (n : Nat) (T : Objs) : List Nat → (Objs → Prop) → Prop
  | [], k => k []
  | i :: l, k => n ≤ i ∧ bindO T[i]? fun x => bindO x fun ob => clOb ob ∧ goIds n T l fun os => k (some ob :: os)
/-- What a function comes to, told by its own names. -/
def retV (n : Nat) (d : DV) (T : Objs) (K : DV → Objs → Prop) : Prop := (idsT d).Nodup ∧ clT d ∧ goIds n T (idsT d) fun os => K (canT n (idsT d) d) os

def pick1 (n : Nat) (ids : List Nat) (x : Nat) : Option Nat := if x ∈ ids then some (n + pos x ids) else none
theorem pos_lt {o : Nat} : ∀ {l : List Nat}, o ∈ l → pos o l < l.length
  | a :: l, h => by
    simp only [pos]
    by_cases e : a = o
    · simp [e]
    · rw [if_neg e]
      have : o ∈ l := by simpa [Ne.symm (show a ≠ o from e), fun h : o = a => e h.symm] using h
      have := pos_lt this
      simp; omega
theorem pos_get {o : Nat} : ∀ {l : List Nat}, o ∈ l → l[pos o l]? = some o
  | a :: l, h => by
    simp only [pos]
    by_cases e : a = o
    · simp [e]
    · rw [if_neg e]
      have : o ∈ l := by
        rcases List.mem_cons.1 h with h | h
        · exact absurd h.symm e
        · exact h
      simpa using pos_get this
theorem ren0 {n : Nat} {ids : List Nat} {d : DV} (h : ∀ o ∈ ids0 d, o ∈ ids) (hc : cl0 d) : Ren (pick1 n ids) d (can0 n ids d) := by
  cases d with
  | own o off m => exact .own _ _ _ _ (if_pos (h o (by simp [ids0])))
  | ptr o i j => exact .ptr _ _ _ _ (if_pos (h o (by simp [ids0])))
  | int k n => exact .cl _ (Cl.int k n)
  | bool b => exact .cl _ (Cl.bool b)
  | str s => exact .cl _ (Cl.str s)
  | undef => exact .cl _ Cl.undef
  | lit v => exact .cl _ (Cl.lit v)
  | sl sz rows k => exact .cl _ (Cl.sl sz rows k hc)
  | agg cs => exact .cl _ hc
  | tup cs => exact .cl _ hc
  | rp row j => exact .cl _ hc
  | wrap w cs => exact .cl _ hc
theorem renA {n : Nat} {ids : List Nat} {d : DV} (h : ∀ o ∈ idsA d, o ∈ ids) (hc : clA d) : Ren (pick1 n ids) d (canA n ids d) := by
  cases d with
  | agg cs =>
    refine .agg _ _ (by simp) fun i c d hc' hd => ?_
    rw [List.getElem?_map, hc'] at hd
    obtain rfl := Option.some.inj hd
    have hm := List.mem_of_getElem? hc'
    exact ren0 (fun o ho => h o (List.mem_flatMap.2 ⟨c, hm, ho⟩)) (hc c hm)
  | wrap w cs =>
    refine .wrap _ _ _ (by simp) fun i c d hc' hd => ?_
    rw [List.getElem?_map, hc'] at hd
    obtain rfl := Option.some.inj hd
    have hm := List.mem_of_getElem? hc'
    exact ren0 (fun o ho => h o (List.mem_flatMap.2 ⟨c, hm, ho⟩)) (hc c hm)
  | _ => exact ren0 h hc
theorem renT {n : Nat} {ids : List Nat} {d : DV} (h : ∀ o ∈ idsT d, o ∈ ids) (hc : clT d) : Ren (pick1 n ids) d (canT n ids d) := by
  cases d with
  | tup cs =>
    refine .tup _ _ (by simp) fun i c d hc' hd => ?_
    rw [List.getElem?_map, hc'] at hd
    obtain rfl := Option.some.inj hd
    have hm := List.mem_of_getElem? hc'
    exact renA (fun o ho => h o (List.mem_flatMap.2 ⟨c, hm, ho⟩)) (hc c hm)
  | _ => exact renA h hc
theorem renOb {f : Nat → Option Nat} {ob : Ob} (h : clOb ob) : RenOb f ob ob := by
  refine ⟨rfl, rfl, fun i ra rb ha hb => ?_⟩
  rw [ha] at hb
  obtain rfl := Option.some.inj hb
  refine ⟨rfl, fun j c d hc hd => ?_⟩
  rw [hc] at hd
  obtain rfl := Option.some.inj hd
  have h1 := List.mem_of_getElem? ha
  have h2 := List.mem_of_getElem? hc
  cases ob with
  | box cs =>
    simp only [Ob.rows, List.mem_singleton] at h1
    subst h1
    exact .cl _ (h c h2)
  | arr sz rows => exact .cl _ (h ra h1 c h2)

theorem goIds_spec {n : Nat} {T : Objs} : ∀ {ids : List Nat} {K : Objs → Prop}, goIds n T ids K → ∃ os, K os ∧ os.length = ids.length ∧ (∀ o ∈ ids, n ≤ o) ∧ ∀ (k : Nat) (ob' : Ob), os[k]? = some (some ob') → ∃ o, ids[k]? = some o ∧ T[o]? = some (some ob') ∧ clOb ob'
  | [], K, h => ⟨[], h, rfl, by simp, by simp⟩
  | i :: l, K, h => by
    obtain ⟨h1, h2⟩ := h
    cases hT : T[i]? with
    | none => rw [hT] at h2; exact h2.elim
    | some x => cases x with
      | none => rw [hT] at h2; exact h2.elim
      | some ob =>
        rw [hT] at h2
        obtain ⟨h3, h4⟩ := h2
        obtain ⟨os, h5, h6, h7, h8⟩ := goIds_spec h4
        refine ⟨some ob :: os, h5, by simp [h6], by simpa using ⟨h1, h7⟩, fun k ob' hk => ?_⟩
        rcases k with _ | k
        · simp at hk; subst hk; exact ⟨i, rfl, hT, h3⟩
        · simpa using h8 k ob' (by simpa using hk)

theorem retV_spec {n : Nat} {d : DV} {T : Objs} {K : DV → Objs → Prop} (h : retV n d T K) : ∃ g r' os, Canon n g d T r' os ∧ K r' os := by
  obtain ⟨hn, hc, hg⟩ := h
  obtain ⟨os, h1, h2, h3, h4⟩ := goIds_spec hg
  refine ⟨pick1 n (idsT d), _, os, ⟨renT (fun _ h => h) hc, fun k ob' hk => ?_, fun a b x ha hb => ?_, fun a x ha => ?_⟩, h1⟩
  · obtain ⟨o, h5, h6, h7⟩ := h4 k ob' hk
    have hm := List.mem_of_getElem? h5
    refine ⟨o, ob', ?_, h6, renOb h7⟩
    show (if o ∈ idsT d then some (n + pos o (idsT d)) else none) = some (n + k)
    rw [if_pos hm]
    have h8 := pos_get hm
    have : pos o (idsT d) = k := (List.getElem?_inj (pos_lt hm) hn).1 (h8.trans h5.symm)
    rw [this]
  · unfold pick1 at ha hb
    by_cases hma : a ∈ idsT d
    case neg => rw [if_neg hma] at ha; cases ha
    by_cases hmb : b ∈ idsT d
    case neg => rw [if_neg hmb] at hb; cases hb
    rw [if_pos hma] at ha
    rw [if_pos hmb] at hb
    have e : n + pos a (idsT d) = n + pos b (idsT d) := (Option.some.inj ha).trans (Option.some.inj hb).symm
    have h8 := pos_get hma
    have h9 := pos_get hmb
    rw [show pos a (idsT d) = pos b (idsT d) by omega, h9] at h8
    exact (Option.some.inj h8).symm
  · unfold pick1 at ha
    split at ha
    · rename_i hm
      have := pos_lt hm
      obtain rfl := Option.some.inj ha
      exact ⟨h3 a hm, by omega, by omega⟩
    · cases ha

/-- A function's law, told by its code; what it makes is numbered by its result. -/
theorem FSpec.by_fn {E : Prg} {F : FTab} (hF : FOk E F) {f : Nat} {ann : List Ann} {rf : RFn} {args : List DV} {s : FSpec} (hc : compFn E.P ann f = some rf) (hargs : args.length ≤ rf.n)
    (h : ∀ n, rf.code.wp E F rf.n (finQ rf.res fun d T' => n ≤ T'.length ∧ retV n d T' fun d' os => d' = (s.res n).1 ∧ os = (s.res n).2) ⟨initEnv 0 args, List.replicate n none⟩) : PCalls E f args fun n r os => r = (s.res n).1 ∧ os = (s.res n).2 := by
  intro n
  have h1 : GCalls E f args (List.replicate n none) fun r T' => retV n r T' fun d' os => d' = (s.res n).1 ∧ os = (s.res n).2 := by
    refine GCalls.of_fn hF hc hargs (RC.wp_mono _ (h n) fun e st hh => ?_)
    have key : ∀ st : St, (match resOf st rf.res with
        | some d => n ≤ st.objs.length ∧ retV n d st.objs fun d' os => d' = (s.res n).1 ∧ os = (s.res n).2
        | none => False) → (match resOf st rf.res with
        | some d => (List.replicate n (none : Option Ob)).length ≤ st.objs.length ∧ retV n d st.objs fun d' os => d' = (s.res n).1 ∧ os = (s.res n).2
        | none => False) := fun st hh => by
      cases hres : resOf st rf.res with
      | none => rw [hres] at hh; exact hh
      | some d => rw [hres] at hh; exact ⟨by simpa using hh.1, hh.2⟩
    cases e with
    | normal => exact key st hh
    | ret => exact key st hh
    | _ => exact hh
  exact (h1.canon fun r T' hr => by
    obtain ⟨g, r', os, hg, hK⟩ := retV_spec hr
    exact ⟨g, r', os, hg, os, rfl, hK⟩)

theorem RO_len (n : Nat) (l : Objs) : (List.replicate n none ++ l).length = n + l.length := by simp
theorem RO_get (n k : Nat) (l : Objs) : (List.replicate n none ++ l)[n + k]? = l[k]? := by
  rw [List.getElem?_append_right (by simp)]
  simp
theorem RO_get0 (n : Nat) (l : Objs) : (List.replicate n none ++ l)[n]? = l[0]? := RO_get n 0 l
theorem RO_set (n k : Nat) (l : Objs) (x : Option Ob) : (List.replicate n none ++ l).set (n + k) x = List.replicate n none ++ l.set k x := by
  rw [List.set_append_right _ _ (by simp)]
  simp
theorem RO_set0 (n : Nat) (l : Objs) (x : Option Ob) : (List.replicate n none ++ l).set n x = List.replicate n none ++ l.set 0 x := RO_set n 0 l x

/-- Rows of one number each. -/
def intRows (k : IntKind) (l : List Int) : List (List DV) := l.map fun n => [.int k n]
theorem intRows_length (k : IntKind) (l : List Int) : (intRows k l).length = l.length := by simp [intRows]
theorem intRows_get (k : IntKind) (l : List Int) (i : Nat) : (intRows k l)[i]? = (l[i]?).map fun n => [.int k n] := by simp [intRows]
theorem intRows_append (k : IntKind) (a b : List Int) : intRows k a ++ intRows k b = intRows k (a ++ b) := by simp [intRows]
theorem intRows_nil (k : IntKind) : intRows k [] = [] := rfl
theorem intRows_one (k : IntKind) (n : Int) : [[DV.int k n]] = intRows k [n] := rfl
theorem intRows_take (k : IntKind) (l : List Int) (n : Nat) : (intRows k l).take n = intRows k (l.take n) := by simp [intRows]
theorem intRows_drop (k : IntKind) (l : List Int) (n : Nat) : (intRows k l).drop n = intRows k (l.drop n) := by simp [intRows]
theorem intRows_set (k : IntKind) (l : List Int) (i : Nat) (n : Int) : (intRows k l).set i [.int k n] = intRows k (l.set i n) := by simp [intRows, List.map_set]
theorem intRows_eq_nil (k : IntKind) (l : List Int) : (intRows k l = []) = (l = []) := by simp [intRows]
theorem ClRows_int (k : IntKind) (l : List Int) : ClRows (intRows k l) := fun row hr c hc => by
  simp only [intRows, List.mem_map] at hr
  obtain ⟨n, _, rfl⟩ := hr
  simp only [List.mem_singleton] at hc
  subst hc
  exact Cl.int k n
theorem ClRows_nil : ClRows [] := fun row h => by cases h
theorem rowsBytes_int (l : List Int) : rowsBytes (intRows .u8 l) = some (l.map fun n => UInt8.ofNat n.toNat) := by
  induction l with
  | nil => rfl
  | cons a l ih =>
    show rowsBytes ([.int .u8 a] :: intRows .u8 l) = _
    simp only [rowsBytes, ih, Option.map, List.map_cons]

/-- The numbers of rows. -/
def ints (rows : List (List DV)) : List Int := rows.map fun
  | [.int _ n] => n
  | _ => 0
theorem ints_intRows (k : IntKind) (l : List Int) : ints (intRows k l) = l := by
  simp only [ints, intRows, List.map_map]
  exact List.map_id'' (fun _ => rfl) l

/-- Not too many, each within its kind's bounds. -/
def inK (k : IntKind) (l : List Int) : Prop := l.length ≤ 4611686018427387904 ∧ ∀ n ∈ l, k.min ≤ n ∧ n ≤ k.max
theorem inK_nil (k : IntKind) : inK k [] := ⟨by simp, by simp⟩
theorem inK.u8 {l : List Int} (h : inK .u8 l) {n : Int} (hn : n ∈ l) : 0 ≤ n ∧ n ≤ 255 := by
  have := h.2 n hn
  simpa [IntKind.min, IntKind.max, IntKind.signed, IntKind.bits] using this
theorem inK.i32 {l : List Int} (h : inK .i32 l) {n : Int} (hn : n ∈ l) : -2147483648 ≤ n ∧ n ≤ 2147483647 := by
  have := h.2 n hn
  simpa [IntKind.min, IntKind.max, IntKind.signed, IntKind.bits] using this
theorem inK.i64 {l : List Int} (h : inK .i64 l) {n : Int} (hn : n ∈ l) : -9223372036854775808 ≤ n ∧ n ≤ 9223372036854775807 := by
  have := h.2 n hn
  simpa [IntKind.min, IntKind.max, IntKind.signed, IntKind.bits] using this
theorem inK_u8 {l : List Int} (h : l.length ≤ 4611686018427387904) (hn : ∀ n ∈ l, 0 ≤ n ∧ n ≤ 255) : inK .u8 l := ⟨h, by simpa [IntKind.min, IntKind.max, IntKind.signed, IntKind.bits] using hn⟩
theorem inK_i32 {l : List Int} (h : l.length ≤ 4611686018427387904) (hn : ∀ n ∈ l, -2147483648 ≤ n ∧ n ≤ 2147483647) : inK .i32 l := ⟨h, by simpa [IntKind.min, IntKind.max, IntKind.signed, IntKind.bits] using hn⟩
theorem inK_i64 {l : List Int} (h : l.length ≤ 4611686018427387904) (hn : ∀ n ∈ l, -9223372036854775808 ≤ n ∧ n ≤ 9223372036854775807) : inK .i64 l := ⟨h, by simpa [IntKind.min, IntKind.max, IntKind.signed, IntKind.bits] using hn⟩
theorem inK.take {k : IntKind} {l : List Int} (h : inK k l) (n : Nat) : inK k (l.take n) := ⟨Nat.le_trans (by simp; omega) h.1, fun x hx => h.2 x (List.mem_of_mem_take hx)⟩
theorem inK.drop {k : IntKind} {l : List Int} (h : inK k l) (n : Nat) : inK k (l.drop n) := ⟨Nat.le_trans (by simp) h.1, fun x hx => h.2 x (List.mem_of_mem_drop hx)⟩
theorem inK.append {k : IntKind} {a b : List Int} (ha : inK k a) (hb : inK k b) (h : a.length + b.length ≤ 4611686018427387904) : inK k (a ++ b) := ⟨by simpa using h, fun x hx => (List.mem_append.1 hx).elim (ha.2 x) (hb.2 x)⟩

/-- A slice of numbers that is only read. -/
def isInts (k : IntKind) : DV → Prop
  | .sl sz rows _ => rows = intRows k (ints rows) ∧ (sz = 1 ∨ rows = []) ∧ inK k (ints rows)
  | _ => False
def intsD : DV → List Int
  | .sl _ rows _ => ints rows
  | _ => []
theorem isInts_sl (k : IntKind) (l : List Int) (s : SK) : isInts k (.sl 1 (intRows k l) s) = inK k l := by simp [isInts, ints_intRows]
theorem isInts_nil (k : IntKind) (sz : Nat) (s : SK) : isInts k (.sl sz [] s) = True := by simp [isInts, ints, intRows, inK]
theorem intsD_sl (k : IntKind) (sz : Nat) (l : List Int) (s : SK) : intsD (.sl sz (intRows k l) s) = l := ints_intRows k l
theorem intsD_nil (sz : Nat) (s : SK) : intsD (.sl sz [] s) = [] := rfl
theorem isInts_inv {k : IntKind} {d : DV} (h : isInts k d) : ∃ sz s, d = .sl sz (intRows k (intsD d)) s ∧ (sz = 1 ∨ intsD d = []) ∧ inK k (intsD d) := by
  cases d with
  | sl sz rows s =>
    obtain ⟨h1, h2, h3⟩ := h
    refine ⟨sz, s, ?_, h2.imp id fun h => (by subst h; rfl), h3⟩
    show DV.sl sz rows s = .sl sz (intRows k (ints rows)) s
    rw [← h1]
  | _ => exact h.elim

theorem wI64 {n : Int} (h1 : -9223372036854775808 ≤ n) (h2 : n ≤ 9223372036854775807) : IntKind.i64.wrap n = n := by rw [IntKind.wrap_i64]; omega
theorem wI32 {n : Int} (h1 : -2147483648 ≤ n) (h2 : n ≤ 2147483647) : IntKind.i32.wrap n = n := by rw [IntKind.wrap_i32]; omega
theorem wU8 {n : Int} (h1 : 0 ≤ n) (h2 : n ≤ 255) : IntKind.u8.wrap n = n := by rw [IntKind.wrap_u8]; omega
theorem wU32 {n : Int} (h1 : 0 ≤ n) (h2 : n ≤ 4294967295) : IntKind.u32.wrap n = n := by rw [IntKind.wrap_u32]; omega

end Go.Proofs.Ytaopaongpoecoaa
