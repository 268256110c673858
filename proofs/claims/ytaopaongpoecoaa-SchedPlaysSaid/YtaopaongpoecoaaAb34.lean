/- A law's contract out of its walk from the empty table. -/
import Derived.Test.YtaopaongpoecoaaAb26
import Derived.Test.YtaopaongpoecoaaAb33
set_option linter.unusedVariables false
set_option linter.unusedSimpArgs false
namespace Go.Proofs.Ytaopaongpoecoaa
open Go.RowKit Go.ChangeShapes Go.WideShapes
theorem conf_ints {k : IntKind} {d : DV} (h : Conf (.sl [.int k]) d) : ∃ l, d = .sl 1 (intRows k l) .any ∧ (∀ n ∈ l, k.min ≤ n ∧ n ≤ k.max) := by
  cases h with
  | sl row rows h1 h2 h3 =>
    refine ⟨ints rows, ?_, ?_⟩
    · congr 1
      have : ∀ R : List (List DV), (∀ r ∈ R, r.length = 1) → (∀ r ∈ R, ∀ (i : Nat) c d, [CS.int k][i]? = some c → r[i]? = some d → Conf c d) → R = intRows k (ints R) := by
        intro R
        induction R with
        | nil => intro _ _; rfl
        | cons r R ih =>
          intro g1 g2
          have g3 := g1 r (by simp)
          match r, g3 with
          | [c], _ =>
            have g4 := g2 [c] (by simp) 0 (.int k) c rfl rfl
            cases g4 with
            | int k n a b =>
              have := ih (fun r hr => g1 r (by simp [hr])) (fun r hr => g2 r (by simp [hr]))
              conv => lhs; rw [this]
              simp [ints, intRows]
      exact this rows h2 h3
    · intro n hn
      simp only [ints, List.mem_map] at hn
      obtain ⟨r, hr, rfl⟩ := hn
      have g3 := h2 r hr
      match r, g3 with
      | [c], _ =>
        have g4 := h3 [c] hr 0 (.int k) c rfl rfl
        cases g4 with
        | int k n a b => exact ⟨a, b⟩
/-- A slice's rows, each as its cells conform. -/
theorem conf_rows {cs : List CS} {d : DV} (h : Conf (.sl cs) d) : ∃ rows, d = .sl cs.length rows .any ∧ ∀ r ∈ rows, r.length = cs.length ∧ ∀ (i : Nat) c d, cs[i]? = some c → r[i]? = some d → Conf c d := by
  cases h with
  | sl row rows h1 h2 h3 => exact ⟨rows, rfl, fun r hr => ⟨h2 r hr, h3 r hr⟩⟩
theorem rows_map {α : Type} {f : α → List DV} {P : α → Prop} : ∀ {rows : List (List DV)}, (∀ r ∈ rows, ∃ x, r = f x ∧ P x) → ∃ l : List α, rows = l.map f ∧ ∀ x ∈ l, P x
  | [], _ => ⟨[], rfl, by simp⟩
  | r :: rows, h => by
    obtain ⟨x, hx, hp⟩ := h r (by simp)
    obtain ⟨l, hl, hpl⟩ := rows_map fun r hr => h r (List.mem_cons_of_mem _ hr)
    exact ⟨x :: l, by simp [hx, hl], by simp [hp]; exact hpl⟩
theorem conf_int {k : IntKind} {d : DV} (h : Conf (.int k) d) : ∃ n, d = .int k n ∧ k.min ≤ n ∧ n ≤ k.max := by
  cases h with
  | int k n a b => exact ⟨n, rfl, a, b⟩
theorem conf_bool {d : DV} (h : Conf .bool d) : ∃ b, d = .bool b := by
  cases h with
  | bool b => exact ⟨b, rfl⟩
theorem confA_rows {cs : List CS} {d : DV} (h : ConfA (false, [.sl cs]) d) : ∃ rows, d = .sl cs.length rows .any ∧ ∀ r ∈ rows, r.length = cs.length ∧ ∀ (i : Nat) c d, cs[i]? = some c → r[i]? = some d → Conf c d := by
  obtain ⟨c, h1, h2⟩ := h
  obtain rfl := (List.cons.inj h1).1
  exact conf_rows h2
theorem confA_ints {k : IntKind} {d : DV} (h : ConfA (false, [.sl [.int k]]) d) : ∃ l, d = .sl 1 (intRows k l) .any ∧ (∀ n ∈ l, k.min ≤ n ∧ n ≤ k.max) := by
  obtain ⟨c, h1, h2⟩ := h
  obtain rfl := (List.cons.inj h1).1
  exact conf_ints h2
theorem confA_int {k : IntKind} {d : DV} (h : ConfA (false, [.int k]) d) : ∃ n, d = .int k n ∧ k.min ≤ n ∧ n ≤ k.max := by
  obtain ⟨c, h1, h2⟩ := h
  obtain rfl := (List.cons.inj h1).1
  cases h2 with
  | int k n a b => exact ⟨n, rfl, a, b⟩
theorem confA_bool {d : DV} (h : ConfA (false, [.bool]) d) : ∃ b, d = .bool b := by
  obtain ⟨c, h1, h2⟩ := h
  obtain rfl := (List.cons.inj h1).1
  cases h2 with
  | bool b => exact ⟨b, rfl⟩
theorem inK_of {k : IntKind} {l : List Int} (h : ∀ n ∈ l, k.min ≤ n ∧ n ≤ k.max) (hl : l.length ≤ 1000000) : inK k l := ⟨by omega, h⟩
section
variable {H : Type} {enc : TypeId × Value → H} {P : Program} {w : World} {base : Nat} {spare : Nat → Bool} {held : Bool}
theorem CallK.g {E : Prg} {f : Nat} {args : List DV} {K : DV → Objs → Prop} {R : DV → Prop} (h : CallK E f args [] K) (hK : ∀ r T, K r T → R r) : GCalls E f args [] fun r _ => R r := by
  obtain ⟨T1, Q, h1, h2, h3, h4⟩ := h
  have : T1 = [] := List.length_eq_zero_iff.1 h1
  subst this
  intro G w vs g1 g2 g3 g4
  refine (h3 G w vs g1 g2 g3 g4).mono fun e w' ⟨v, r, T', G', a, b, c, d⟩ => ⟨v, r, T', G', a, ?_, c, d⟩
  obtain ⟨T2, _, k⟩ := h4 r T' b (Nat.zero_le _)
  exact hK r T2 k
theorem law_contractG {E : Prg} {f : FuncId} {fn : Func} {s : ChangeSpec} {tb : TypeId} {k : Nat} {l : List (Bool × List CS)} {apart fresh handsOn : Bool} (hres : fn.resultTypes = #[tb]) (hb : E.P.underlying tb = some .bool)
    (hs : ∀ ds : List (DataW H), ds.length = k → s.fn H ds = { results := [.lit (.bool true)], args := ds }) (hsv : s.vars = []) (hk : fn.params.size = k) (hsh : asAll E.P fn.params.toList = some l)
    (hG : GlobOk E (Gh.all w)) (hlaw : ∀ dv, ConfL l dv → GCalls E f dv [] fun r _ => r = .bool true) {b0 : Nat} {args : Array Value} {ds gs : List (DataW H)} {before : List MemPlace}
    (hval : ∀ (j : Nat) t v, fn.params[j]? = some t → args[j]? = some v → Value.okWide E.P w .any b0 t v) (hW : DataW.Whole enc E.P fn.params.toList s.vars apart w args.toList ds gs before) :
    Calls E.P f args w fun e W' => ∃ v, e = .returned v ∧ s.post enc E.P fn apart fresh handsOn false w args v W' := by
  have hW' := hW
  obtain ⟨p, q, hA, hV, rfl, hfz, hnd⟩ := hW
  obtain ⟨dv, hc, hl, hrel⟩ := args_rel hsh (fun j t v ht hv => hval j t v (by simpa using ht) (by simpa using hv)) hA
  rw [hsv] at hV
  obtain ⟨rfl, rfl⟩ : gs = [] ∧ q = [] := by
    cases gs with
    | nil => exact ⟨rfl, hV⟩
    | cons => exact hV.elim
  have hdl : ds.length = k := by rw [trodAll_len hA]; simpa using hk
  have h := hlaw dv hc (Gh.all w) w args hG (Gh.all_heap w) (by simpa using hl.symm) (fun i d hd => by
    have := hrel i d hd
    simpa [Array.getD_eq_getD_getElem?, List.getD_eq_getElem?_getD] using this)
  refine h.mono fun e W' ⟨v, r, T', G', he, hr, _, hrv, hheap, hfrm⟩ => ?_
  subst he hr
  have hno : ∀ a, ¬ cellsOf (Gh.all w) [] a := fun a ⟨k, ob, p, m, h1, _⟩ => by simp at h1
  have hblk : ∀ b : Nat, b < w.heap.size → W'.heap[b]? = w.heap[b]? := fun b hb => hfrm.blk b hb fun o => hno _
  have hv : v = .bool true := by cases hrv; rfl
  subst hv
  refine ⟨_, rfl, ?_⟩
  rw [List.append_nil] at hfz hnd hW'
  have hsfn := hs ds hdl
  have hlt : ∀ x ∈ p, x.block < w.heap.size := hW'.lt
  have hres' : ∀ (b : Nat) (sp : Nat → Bool) (hd : Bool), DataW.TrodAll enc E.P W' b sp hd fn.resultTypes.toList ((Value.bool true).resultList fn.resultTypes.size) [.lit (.bool true)] [] := fun b sp hd => by
    rw [hres]
    exact trodAll_cons_mk (shut_bool hb _) trodAll_mk0
  refine ⟨ds, [], p, [], p, [], hW', ?_, ?_, ?_, ⟨hfrm.os, hfrm.output, fun i hi => ?_⟩, fun h => by cases h⟩
  · rw [List.append_nil, hsfn]; exact hres' _ _ _
  · rw [List.append_nil, hsfn]; exact trodAll_again hblk hsh hA fun x hx => by simpa using hlt x hx
  · rw [List.append_nil, hsfn, hsv]; rfl
  · rw [hblk i hi]
    split
    · rename_i h1 h2; rw [h1] at h2; obtain ⟨rfl, rfl, rfl⟩ := Obj.cells.injEq .. ▸ Option.some.inj h2; exact ⟨rfl, rfl, rfl, fun _ _ => rfl⟩
    · rename_i h1 h2; rw [h1] at h2; obtain ⟨rfl, rfl⟩ := Obj.map.injEq .. ▸ Option.some.inj h2; exact Or.inr ⟨rfl, rfl⟩
    · rfl
end
end Go.Proofs.Ytaopaongpoecoaa
