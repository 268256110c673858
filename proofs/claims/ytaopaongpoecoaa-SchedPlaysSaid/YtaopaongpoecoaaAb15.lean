/- Regions whose order is drawn: what is shown of one order holds of all. -/
import Derived.Test.YtaopaongpoecoaaAb14
set_option linter.unusedVariables false
set_option linter.unusedSimpArgs false
namespace Go.Proofs.Ytaopaongpoecoaa
open Go.RowKit

theorem St.ins_lt {t k : Nat} (d y : DV) (l : List (Nat × DV)) (h : t < k) : St.ins t d ((k, y) :: l) = (t, d) :: (k, y) :: l := by simp only [St.ins, if_pos h]
theorem St.ins_eq {t k : Nat} (d y : DV) (l : List (Nat × DV)) (h : t = k) : St.ins t d ((k, y) :: l) = (t, d) :: l := by subst h; simp [St.ins]
theorem St.ins_gt {t k : Nat} (d y : DV) (l : List (Nat × DV)) (h : k < t) : St.ins t d ((k, y) :: l) = (k, y) :: St.ins t d l := by simp only [St.ins, if_neg (show ¬ t < k by omega), if_neg (show ¬ k = t by omega)]
theorem St.ins_comm (t u : Nat) (d x : DV) (h : t ≠ u) : ∀ l : List (Nat × DV), St.ins t d (St.ins u x l) = St.ins u x (St.ins t d l)
  | [] => by
    simp only [St.ins]
    by_cases h1 : t < u
    · rw [if_pos h1, if_neg (by omega), if_neg (by omega)]
    · rw [if_neg h1, if_neg (by omega), if_pos (by omega)]
  | (k, y) :: l => by
    have ih := St.ins_comm t u d x h l
    rcases Nat.lt_trichotomy t k with a | a | a <;> rcases Nat.lt_trichotomy u k with b | b | b <;> rcases Nat.lt_trichotomy t u with c | c | c <;>
      first
        | omega
        | (repeat (first
            | rw [ih]
            | (rw [St.ins_lt (h := (by omega : t < u))]) | (rw [St.ins_lt (h := (by omega : u < t))])
            | (rw [St.ins_lt (h := (by omega : t < k))]) | (rw [St.ins_lt (h := (by omega : u < k))])
            | (rw [St.ins_eq (h := (by omega : t = k))]) | (rw [St.ins_eq (h := (by omega : u = k))])
            | (rw [St.ins_gt (h := (by omega : u < t))]) | (rw [St.ins_gt (h := (by omega : t < u))])
            | (rw [St.ins_gt (h := (by omega : k < t))]) | (rw [St.ins_gt (h := (by omega : k < u))])))

theorem St.put_comm (st : St) (a b : Option Nat) (d x : DV) (h : ∀ t, a = some t → b ≠ some t) : (st.put a d).put b x = (st.put b x).put a d := by
  cases a with
  | none => rfl
  | some t => cases b with
    | none => rfl
    | some u =>
      have : t ≠ u := fun e => h t rfl (by rw [e])
      simp only [St.put]
      rw [St.ins_comm u t x d (fun e => this e.symm)]

theorem callV_mono {E : Prg} {x : Option FS} {dr : Bool} {f : Nat} {args : List DV} {T : Objs} {K K' : DV → Objs → Prop} (h : callV E x dr f args T K) (hk : ∀ d T', K d T' → K' d T') : callV E x dr f args T K' := by
  unfold callV at h ⊢
  split at h
  · exact ⟨h.1, hk _ _ h.2⟩
  · split at h
    · exact h.elim
    · rename_i s hd; rw [if_neg hd]; exact s.mono _ _ _ h hk
  · split at h
    · exact h.elim
    · rename_i hd; rw [if_neg hd]; exact h.mono hk
theorem bindO_mono {α : Type} {x : Option α} {f g : α → Prop} (h : bindO x f) (hk : ∀ a, f a → g a) : bindO x g := by
  cases x with
  | none => exact h.elim
  | some y => exact hk y h
theorem calldV_mono {E : Prg} {F : FTab} {dr : Bool} {d : DV} {args : List DV} {T : Objs} {K K' : DV → Objs → Prop} (h : calldV E F dr d args T K) (hk : ∀ d T, K d T → K' d T) : calldV E F dr d args T K' := by
  unfold calldV at h ⊢
  split at h
  · exact ⟨h.1, h.2.1, h.2.2.1, callV_mono h.2.2.2 hk⟩
  · exact ⟨h.1, callV_mono h.2 hk⟩
  · exact h.elim
theorem invV_mono {E : Prg} {F : FTab} {dr : Bool} {r : Option (FuncId × DV)} {args : List DV} {T : Objs} {K K' : DV → Objs → Prop} (h : invV E F dr r args T K) (hk : ∀ d T, K d T → K' d T) : invV E F dr r args T K' := by
  unfold invV at h ⊢
  split at h
  · exact ⟨h.1, callV_mono h.2 hk⟩
  · exact h.elim
theorem opWp_mono {E : Prg} {F : FTab} {dr : Bool} {o : ROper} {K K' : St → Prop} {st : St} (h : opWp E F dr o K st) (hk : ∀ st, K st → K' st) : opWp E F dr o K' st := by
  unfold opWp at h ⊢
  split at h
  · exact callV_mono h fun d T' hh => hk _ hh
  · exact calldV_mono h fun d T' hh => hk _ hh
  · exact invV_mono h fun d T' hh => hk _ hh
  · exact bindO_mono h fun p hh => hk _ hh
theorem stepWp_mono {E : Prg} {F : FTab} {dr : Bool} {o : ROper} {K K' : St → Prop} {st : St} (h : stepWp E F dr o K st) (hk : ∀ st, K st → K' st) : stepWp E F dr o K' st := by
  unfold stepWp at h ⊢
  split at h
  · exact opWp_mono h hk
  · simp only [bindG] at h ⊢
    split at h
    · unfold cnd at h ⊢
      split at h
      · rename_i hb; rw [if_pos hb]; exact opWp_mono h hk
      · rename_i hb; rw [if_neg hb]; exact hk _ h
    · exact ⟨h.1, hk _ h.2⟩
    · exact h.elim
theorem opsWp_mono {E : Prg} {F : FTab} : ∀ (l : List ROper) {K K' : St → Prop} {st : St}, opsWp E F l K st → (∀ st, K st → K' st) → opsWp E F l K' st
  | [], K, K', st, h, hk => hk _ h
  | o :: l, K, K', st, h, hk => stepWp_mono h fun st hh => opsWp_mono l hh hk
theorem OT.wp_mono {E : Prg} {F : FTab} : ∀ (t : OT) {K K' : St → Prop} {st : St}, t.wp E F K st → (∀ st, K st → K' st) → t.wp E F K' st
  | .done, K, K', st, h, hk => hk _ h
  | .fin o, K, K', st, h, hk => stepWp_mono h hk
  | .op o k, K, K', st, h, hk => stepWp_mono h fun st hh => OT.wp_mono k hh hk
  | .take o ps k, K, K', st, h, hk => ⟨h.1, stepWp_mono h.2 fun st hh => OT.wp_mono k hh hk⟩
  | .alt a b, K, K', st, h, hk => ⟨OT.wp_mono a h.1 hk, OT.wp_mono b h.2 hk⟩

/-- Two states in which an operation's operands are the same. -/
def EvEq (E : Prg) (op : ROp) (st st' : St) : Prop := ∀ x ∈ op.opds, x.ev E st' = x.ev E st

theorem ev_put {E : Prg} {st : St} {x : Opd} {dst : Option Nat} {d : DV} (h : ∀ t, dst = some t → t ∉ x.tm) : x.ev E (st.put dst d) = x.ev E st := by
  cases dst with
  | none => rfl
  | some t => cases x with
    | t n =>
      simp only [Opd.ev, St.get_put]
      rw [if_neg (fun e => h t rfl (by subst e; simp [Opd.tm]))]
    | c d => rfl
    | g n => rfl
theorem ev_objs {E : Prg} {st : St} {x : Opd} (o : Objs) : x.ev E { st with objs := o } = x.ev E st := by cases x <;> rfl
theorem listApart_spec {a b : List Nat} (h : listApart a b = true) {x : Nat} (hx : x ∈ a) : x ∉ b := by
  have := List.all_eq_true.1 h x hx
  simpa using this

theorem natOf_congr {E : Prg} {st st' : St} {n : Nat} : ∀ {x : Option Opd}, (∀ y ∈ optOpd x, y.ev E st' = y.ev E st) → natOf st' E n x = natOf st E n x
  | none, _ => rfl
  | some y, h => by simp only [natOf, h y (by simp [optOpd])]
theorem foldl_congr' {α β : Type} {f g : β → α → β} : ∀ (l : List α) (b : β), (∀ x ∈ l, ∀ b, f b x = g b x) → l.foldl f b = l.foldl g b
  | [], _, _ => rfl
  | x :: l, b, h => by
    simp only [List.foldl_cons]
    rw [h x (by simp) b]
    exact foldl_congr' l _ fun y hy => h y (by simp [hy])

/-- A quiet operation comes to the same, if its operands and the objects that they name are the same. -/
theorem rval_stay {E : Prg} {op : ROp} {st st' : St} (hq : op.quiet = true) (he : EvEq E op st st')
    (ho : op.blind = false → ∀ x ∈ op.opds, ∀ k z, (x.ev E st).id = some k → st.objs[k]? = some z → st'.objs[k]? = some z) {d : DV} {o : Objs} (h : rval E st op = some (d, o)) :
    rval E st' op = some (d, st'.objs) ∧ o = st.objs := by
  have rows : op.blind = false → ∀ x ∈ op.opds, ∀ r, rowsOf st (x.ev E st) = some r → rowsOf st' (x.ev E st) = some r := by
    intro hb x hx r hr
    have := ho hb x hx
    cases hv : x.ev E st <;> rw [hv] at hr this <;> try exact hr
    rename_i k off n
    simp only [rowsOf] at hr ⊢
    split at hr
    · rename_i sz rows hk
      rw [this k _ rfl hk]
      exact hr
    · cases hr
  cases op <;> first | cases hq | skip
  case mov x =>
    simp only [rval] at h ⊢
    obtain ⟨rfl, rfl⟩ := Prod.mk.inj (Option.some.inj h)
    rw [he x (by simp [ROp.opds])]; exact ⟨rfl, rfl⟩
  case pick c a b =>
    simp only [rval] at h ⊢
    rw [he c (by simp [ROp.opds]), he a (by simp [ROp.opds]), he b (by simp [ROp.opds])]
    split at h
    · obtain ⟨rfl, rfl⟩ := Prod.mk.inj (Option.some.inj h); exact ⟨rfl, rfl⟩
    · cases h
  case build zero parts =>
    simp only [rval] at h ⊢
    obtain ⟨y, hy, h2⟩ := Option.map_eq_some_iff.1 h
    obtain ⟨rfl, rfl⟩ := Prod.mk.inj h2
    exact ⟨Option.map_eq_some_iff.2 ⟨y, (foldl_congr' _ _ fun x hx b => by
      have : x.2.2.ev E st' = x.2.2.ev E st := he x.2.2 (by simp only [ROp.opds, List.mem_map]; exact ⟨x, hx, rfl⟩)
      rw [this]).trans hy, rfl⟩, rfl⟩
  case load ag sz x =>
    simp only [rval] at h ⊢
    rw [he x (by simp [ROp.opds])]
    have := ho rfl x (by simp [ROp.opds])
    split at h
    · rename_i k i j hx
      rw [hx] at this
      split at h
      · rename_i ob hk
        rw [this k _ rfl hk]
        split at h
        · rename_i row hrow
          simp only [hrow]
          obtain ⟨y, hy, h2⟩ := Option.map_eq_some_iff.1 h
          obtain ⟨rfl, rfl⟩ := Prod.mk.inj h2
          exact ⟨by rw [hy]; rfl, rfl⟩
        · cases h
      · cases h
    · rename_i row j hx
      obtain ⟨y, hy, h2⟩ := Option.map_eq_some_iff.1 h
      obtain ⟨rfl, rfl⟩ := Prod.mk.inj h2
      exact ⟨by simp only [hy, Option.map], rfl⟩
    · cases h
  case nilck x =>
    simp only [rval] at h ⊢
    rw [he x (by simp [ROp.opds])]
    split at h <;> first | (obtain ⟨rfl, rfl⟩ := Prod.mk.inj (Option.some.inj h); exact ⟨rfl, rfl⟩) | cases h
  case bin op x y =>
    simp only [rval] at h ⊢
    rw [he x (by simp [ROp.opds]), he y (by simp [ROp.opds])]
    split at h
    · rename_i k a k' b h1 h2
      obtain ⟨z, hz, h2⟩ := Option.map_eq_some_iff.1 h
      obtain ⟨rfl, rfl⟩ := Prod.mk.inj h2
      exact ⟨by rw [hz]; rfl, rfl⟩
    · obtain ⟨z, hz, h2⟩ := Option.map_eq_some_iff.1 h
      obtain ⟨rfl, rfl⟩ := Prod.mk.inj h2
      exact ⟨by rw [hz]; rfl, rfl⟩
    · cases h
  case eqB neg x y =>
    simp only [rval] at h ⊢
    rw [he x (by simp [ROp.opds]), he y (by simp [ROp.opds])]
    split at h
    · obtain ⟨rfl, rfl⟩ := Prod.mk.inj (Option.some.inj h); exact ⟨rfl, rfl⟩
    · cases h
  case eqNil neg x y =>
    simp only [rval] at h ⊢
    rw [he x (by simp [ROp.opds]), he y (by simp [ROp.opds])]
    split at h
    · obtain ⟨z, hz, h2⟩ := Option.map_eq_some_iff.1 h
      obtain ⟨rfl, rfl⟩ := Prod.mk.inj h2
      exact ⟨by rw [hz]; rfl, rfl⟩
    · cases h
  case eqP neg x y =>
    simp only [rval] at h ⊢
    rw [he x (by simp [ROp.opds]), he y (by simp [ROp.opds])]
    obtain ⟨z, hz, h2⟩ := Option.map_eq_some_iff.1 h
    obtain ⟨rfl, rfl⟩ := Prod.mk.inj h2
    exact ⟨by rw [hz]; rfl, rfl⟩
  case eqS neg ks x y =>
    simp only [rval] at h ⊢
    rw [he x (by simp [ROp.opds]), he y (by simp [ROp.opds])]
    split at h
    · obtain ⟨z, hz, h2⟩ := Option.map_eq_some_iff.1 h
      obtain ⟨rfl, rfl⟩ := Prod.mk.inj h2
      exact ⟨by rw [hz]; rfl, rfl⟩
    · cases h
  case un op x =>
    simp only [rval] at h ⊢
    rw [he x (by simp [ROp.opds])]
    obtain ⟨z, hz, h2⟩ := Option.map_eq_some_iff.1 h
    obtain ⟨rfl, rfl⟩ := Prod.mk.inj h2
    exact ⟨by rw [hz]; rfl, rfl⟩
  case conv k x =>
    simp only [rval] at h ⊢
    rw [he x (by simp [ROp.opds])]
    split at h
    · obtain ⟨rfl, rfl⟩ := Prod.mk.inj (Option.some.inj h); exact ⟨rfl, rfl⟩
    · cases h
    · split at h
      · rename_i sz rws hrows
        rw [rows rfl x (by simp [ROp.opds]) _ hrows]
        simp only
        split at h
        · rename_i hc
          rw [if_pos hc]
          obtain ⟨z, hz, h2⟩ := Option.map_eq_some_iff.1 h
          obtain ⟨rfl, rfl⟩ := Prod.mk.inj h2
          exact ⟨by rw [hz]; rfl, rfl⟩
        · cases h
      · cases h
    · cases hq
    · obtain ⟨rfl, rfl⟩ := Prod.mk.inj (Option.some.inj h); exact ⟨rfl, rfl⟩
    · cases hq
    · cases h
  case slice sz x lo hi mx =>
    simp only [rval] at h ⊢
    rw [he x (by simp [ROp.opds])]
    have hlo : ∀ n, natOf st' E n lo = natOf st E n lo := fun n => natOf_congr fun y hy => he y (by simp [ROp.opds, hy])
    have hhi : ∀ n, natOf st' E n hi = natOf st E n hi := fun n => natOf_congr fun y hy => he y (by simp [ROp.opds, hy])
    have hmx : ∀ n, natOf st' E n mx = natOf st E n mx := fun n => natOf_congr fun y hy => he y (by simp [ROp.opds, hy])
    have := ho rfl x (by simp [ROp.opds])
    simp only [hlo, hhi]
    split at h
    · split at h
      · split at h
        · rename_i hc
          rw [if_pos hc]
          split at h
          · obtain ⟨rfl, rfl⟩ := Prod.mk.inj (Option.some.inj h); exact ⟨rfl, rfl⟩
          · rename_i m
            simp only [hmx]
            split at h
            · split at h
              · rename_i hm; rw [if_pos hm]; obtain ⟨rfl, rfl⟩ := Prod.mk.inj (Option.some.inj h); exact ⟨rfl, rfl⟩
              · cases h
            · cases h
        · cases h
      · cases h
    · rename_i k off n hx
      rw [hx] at this
      split at h
      · split at h
        · rename_i s rows hk
          rw [this k _ rfl hk]
          simp only
          split at h
          · rename_i hc; rw [if_pos hc]; obtain ⟨rfl, rfl⟩ := Prod.mk.inj (Option.some.inj h); exact ⟨rfl, rfl⟩
          · cases h
        · cases h
      · cases h
    · cases h
  case sliceS x lo hi =>
    simp only [rval] at h ⊢
    rw [he x (by simp [ROp.opds])]
    have hlo : ∀ n, natOf st' E n lo = natOf st E n lo := fun n => natOf_congr fun y hy => he y (by simp [ROp.opds, hy])
    have hhi : ∀ n, natOf st' E n hi = natOf st E n hi := fun n => natOf_congr fun y hy => he y (by simp [ROp.opds, hy])
    simp only [hlo, hhi]
    split at h
    · split at h
      · split at h
        · rename_i hc; rw [if_pos hc]; obtain ⟨rfl, rfl⟩ := Prod.mk.inj (Option.some.inj h); exact ⟨rfl, rfl⟩
        · cases h
      · cases h
    · cases h
  case faddr off x =>
    simp only [rval] at h ⊢
    rw [he x (by simp [ROp.opds])]
    split at h <;> first | (obtain ⟨rfl, rfl⟩ := Prod.mk.inj (Option.some.inj h); exact ⟨rfl, rfl⟩) | cases h
  case fld ag off sz x =>
    simp only [rval] at h ⊢
    rw [he x (by simp [ROp.opds])]
    split at h
    · obtain ⟨z, hz, h2⟩ := Option.map_eq_some_iff.1 h
      obtain ⟨rfl, rfl⟩ := Prod.mk.inj h2
      exact ⟨by simp only [hz, Option.map], rfl⟩
    · cases h
  case iaddr sz x i =>
    simp only [rval] at h ⊢
    rw [he x (by simp [ROp.opds]), he i (by simp [ROp.opds])]
    have := ho rfl x (by simp [ROp.opds])
    split at h
    · split at h
      · rename_i hc
        rw [if_pos hc]
        split at h
        · obtain ⟨rfl, rfl⟩ := Prod.mk.inj (Option.some.inj h); exact ⟨rfl, rfl⟩
        · cases h
      · cases h
    · rename_i k off m k' n hx hi
      rw [hx] at this
      split at h
      · rename_i hc
        rw [if_pos hc]
        split at h
        · rename_i s rows hk
          rw [this k _ rfl hk]
          simp only
          split at h
          · rename_i hs; rw [if_pos hs]; obtain ⟨rfl, rfl⟩ := Prod.mk.inj (Option.some.inj h); exact ⟨rfl, rfl⟩
          · cases h
        · cases h
      · cases h
    · cases h
  case iaddrA len sz x i =>
    simp only [rval] at h ⊢
    rw [he x (by simp [ROp.opds]), he i (by simp [ROp.opds])]
    split at h <;> first | cases h | skip
    all_goals
      split at h
      · rename_i hc; rw [if_pos hc]; obtain ⟨rfl, rfl⟩ := Prod.mk.inj (Option.some.inj h); exact ⟨rfl, rfl⟩
      · cases h
  case idxS x i =>
    simp only [rval] at h ⊢
    rw [he x (by simp [ROp.opds]), he i (by simp [ROp.opds])]
    split at h
    · split at h
      · rename_i hc
        rw [if_pos hc]
        split at h
        · obtain ⟨rfl, rfl⟩ := Prod.mk.inj (Option.some.inj h); exact ⟨rfl, rfl⟩
        · cases h
      · cases h
    · cases h
  case ext x i =>
    simp only [rval] at h ⊢
    rw [he x (by simp [ROp.opds])]
    split at h
    · split at h
      · obtain ⟨rfl, rfl⟩ := Prod.mk.inj (Option.some.inj h); exact ⟨rfl, rfl⟩
      · cases h
    · cases h
  case len x =>
    simp only [rval] at h ⊢
    rw [he x (by simp [ROp.opds])]
    split at h <;> first | (obtain ⟨rfl, rfl⟩ := Prod.mk.inj (Option.some.inj h); exact ⟨rfl, rfl⟩) | cases h
  case lenS x =>
    simp only [rval] at h ⊢
    rw [he x (by simp [ROp.opds])]
    split at h <;> first | (obtain ⟨rfl, rfl⟩ := Prod.mk.inj (Option.some.inj h); exact ⟨rfl, rfl⟩) | cases h
  case mm isMax x y =>
    simp only [rval] at h ⊢
    rw [he x (by simp [ROp.opds]), he y (by simp [ROp.opds])]
    split at h
    · obtain ⟨rfl, rfl⟩ := Prod.mk.inj (Option.some.inj h); exact ⟨rfl, rfl⟩
    · cases h
  case mkfn f l =>
    simp only [rval] at h ⊢
    have hl : l.map (Opd.ev E st') = l.map (Opd.ev E st) := List.map_congr_left fun x hx => he x (by simpa [ROp.opds] using hx)
    rw [hl]
    obtain ⟨rfl, rfl⟩ := Prod.mk.inj (Option.some.inj h); exact ⟨rfl, rfl⟩
  case mkIfc t x =>
    simp only [rval] at h ⊢
    rw [he x (by simp [ROp.opds])]
    split at h <;> (obtain ⟨rfl, rfl⟩ := Prod.mk.inj (Option.some.inj h); exact ⟨rfl, rfl⟩)
  case asrt t x =>
    simp only [rval] at h ⊢
    rw [he x (by simp [ROp.opds])]
    split at h
    · split at h
      · rename_i hc; rw [if_pos hc]; obtain ⟨rfl, rfl⟩ := Prod.mk.inj (Option.some.inj h); exact ⟨rfl, rfl⟩
      · cases h
    · split at h
      · rename_i hc; rw [if_pos hc]; obtain ⟨rfl, rfl⟩ := Prod.mk.inj (Option.some.inj h); exact ⟨rfl, rfl⟩
      · cases h
    · cases h

theorem rowsOf_objs {st st' : St} (h : st'.objs = st.objs) (d : DV) : rowsOf st' d = rowsOf st d := by cases d <;> simp only [rowsOf, h]

/-- An operation comes to the same, if its operands and the objects are the same. -/
theorem rval_env {E : Prg} {op : ROp} {st st' : St} (he : EvEq E op st st') (ho : st'.objs = st.objs) {p : DV × Objs} (h : rval E st op = some p) : rval E st' op = some p := by
  by_cases hq : op.quiet = true
  · obtain ⟨d, o⟩ := p
    obtain ⟨h1, h2⟩ := rval_stay hq he (fun _ x hx k z hk hz => by rw [ho]; exact hz) h
    rw [h1, h2, ho]
  · cases op <;> first | exact absurd rfl hq | skip
    case box sz x => simp only [rval] at h ⊢; rw [he x (by simp [ROp.opds]), ho]; exact h
    case alloc zero => simp only [rval] at h ⊢; rw [ho]; exact h
    case mkrow sz zero len parts =>
      simp only [rval] at h ⊢
      obtain ⟨y, hy, h2⟩ := Option.map_eq_some_iff.1 h
      rw [ho]
      exact Option.map_eq_some_iff.2 ⟨y, (foldl_congr' _ _ fun x hx b => by
        have : x.2.ev E st' = x.2.ev E st := he x.2 (by simp only [ROp.opds, List.mem_map]; exact ⟨x, hx, rfl⟩)
        rw [this]).trans hy, h2⟩
    case store sz q x => simp only [rval] at h ⊢; rw [he q (by simp [ROp.opds]), he x (by simp [ROp.opds]), ho]; exact h
    case append sz by_ x y => simp only [rval] at h ⊢; rw [he x (by simp [ROp.opds]), he y (by simp [ROp.opds]), ho, rowsOf_objs ho]; exact h
    case copy sz x y => simp only [rval] at h ⊢; rw [he x (by simp [ROp.opds]), he y (by simp [ROp.opds]), ho, rowsOf_objs ho]; exact h
    case mkslice sz by_ zero n c => simp only [rval] at h ⊢; rw [he n (by simp [ROp.opds]), he c (by simp [ROp.opds]), ho]; exact h
    case conv k x => simp only [rval] at h ⊢; rw [he x (by simp [ROp.opds]), ho]; simp only [rowsOf_objs ho]; exact h
    case call f l => cases h
    case calld y l => cases h
    case inv x name l => cases h

/-- What an operation leaves as it was. -/
theorem rval_eff {E : Prg} {op : ROp} {st : St} {d : DV} {o : Objs} (h : rval E st op = some (d, o)) {k : Nat} {z : Option Ob} (hz : st.objs[k]? = some z) (hk : ∀ p ∈ op.wr, (p.ev E st).id ≠ some k) : o[k]? = some z := by
  have hlt : k < st.objs.length := (List.getElem?_eq_some_iff.1 hz).1
  by_cases hq : op.quiet = true
  · obtain ⟨_, h2⟩ := rval_stay (st' := st) hq (fun _ _ => rfl) (fun _ x hx k z hk hz => hz) h
    rw [h2]; exact hz
  · cases op <;> first | exact absurd rfl hq | skip
    case box sz x =>
      simp only [rval] at h
      split at h
      · split at h
        · obtain ⟨rfl, rfl⟩ := Prod.mk.inj (Option.some.inj h); rw [List.getElem?_append_left hlt]; exact hz
        · cases h
      · cases h
    case alloc zero => simp only [rval] at h; obtain ⟨rfl, rfl⟩ := Prod.mk.inj (Option.some.inj h); rw [List.getElem?_append_left hlt]; exact hz
    case mkrow sz zero len parts =>
      simp only [rval] at h
      obtain ⟨y, hy, h2⟩ := Option.map_eq_some_iff.1 h
      obtain ⟨rfl, rfl⟩ := Prod.mk.inj h2
      rw [List.getElem?_append_left hlt]; exact hz
    case store sz q x =>
      simp only [rval] at h
      have := hk q (by simp [ROp.wr])
      split at h
      · rename_i o' i j cs hq' hx
        rw [hq'] at this
        split at h
        · split at h
          · split at h
            · obtain ⟨rfl, rfl⟩ := Prod.mk.inj (Option.some.inj h)
              rw [List.getElem?_set_ne (fun e => this (by rw [e]; rfl))]; exact hz
            · cases h
          · cases h
        · cases h
      · cases h
    case append sz by_ x y =>
      simp only [rval] at h
      have := hk x (by simp [ROp.wr])
      split at h
      · split at h
        · obtain ⟨rfl, rfl⟩ := Prod.mk.inj (Option.some.inj h); rw [List.getElem?_append_left hlt]; exact hz
        · cases h
      · rename_i o' off n s2 new hx hy
        rw [hx] at this
        split at h
        · split at h
          · obtain ⟨rfl, rfl⟩ := Prod.mk.inj (Option.some.inj h)
            rw [List.getElem?_append_left (by simpa using hlt), List.getElem?_set_ne (fun e => this (by rw [e]; rfl))]; exact hz
          · cases h
        · cases h
      · cases h
    case copy sz x y =>
      simp only [rval] at h
      have := hk x (by simp [ROp.wr])
      split at h
      · rename_i o' off n s2 new hx hy
        rw [hx] at this
        split at h
        · split at h
          · obtain ⟨rfl, rfl⟩ := Prod.mk.inj (Option.some.inj h)
            rw [List.getElem?_set_ne (fun e => this (by rw [e]; rfl))]; exact hz
          · cases h
        · cases h
      · cases h
    case mkslice sz by_ zero n c =>
      simp only [rval] at h
      split at h
      · split at h
        · obtain ⟨rfl, rfl⟩ := Prod.mk.inj (Option.some.inj h); rw [List.getElem?_append_left hlt]; exact hz
        · cases h
      · cases h
    case conv k x =>
      simp only [rval] at h
      split at h
      · obtain ⟨rfl, rfl⟩ := Prod.mk.inj (Option.some.inj h); exact hz
      · cases h
      · split at h
        · split at h
          · obtain ⟨z', hz', h2⟩ := Option.map_eq_some_iff.1 h
            obtain ⟨rfl, rfl⟩ := Prod.mk.inj h2
            exact hz
          · cases h
        · cases h
      · split at h
        · obtain ⟨rfl, rfl⟩ := Prod.mk.inj (Option.some.inj h); rw [List.getElem?_append_left hlt]; exact hz
        · cases h
      · obtain ⟨rfl, rfl⟩ := Prod.mk.inj (Option.some.inj h); exact hz
      · split at h
        · split at h
          · obtain ⟨rfl, rfl⟩ := Prod.mk.inj (Option.some.inj h); exact hz
          · cases h
        · cases h
      · cases h
    case call f l => cases h
    case calld y l => cases h
    case inv x name l => cases h

end Go.Proofs.Ytaopaongpoecoaa
