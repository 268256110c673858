/- The program does what its code does to abstract states: code, loops, functions. -/
import Derived.Test.YtaopaongpoecoaaAb16
set_option linter.unusedVariables false
set_option linter.unusedSimpArgs false
namespace Go.Proofs.Ytaopaongpoecoaa
open Go.RowKit

theorem AWp.mono {E : Prg} {n : Nat} {c : Code} {Q Q' : Exit → St → Prop} {st : St} (h : AWp E n c Q st) (hQ : ∀ e st, Q e st → Q' e st) : AWp E n c Q' st :=
  fun C a w hn hr => Code.wp_mono (fun e a' w' ⟨st', h1, h2⟩ => ⟨st', hQ _ _ h1, h2⟩) (h C a w hn hr)

theorem RC.sound {E : Prg} {F : FTab} (hF : FOk E F) {n : Nat} : ∀ (c : Code) (ann : List Ann) (rc : RC) (Q : Exit → St → Prop) (st : St), comp E.P n ann c = some rc → rc.wp E F n Q st → AWp E n c Q st
  | .skip, ann, rc, Q, st, hc, h => by
    obtain rfl := Option.some.inj hc
    exact fun C a w hn hr => wp_skip ⟨st, h, hr⟩
  | .region id ops draw, ann, rc, Q, st, hc, h => by
    simp only [comp] at hc
    cases hl : compOps E.P n (annOf ann id).fz ops ops.toList with
    | none => rw [hl] at hc; cases hc
    | some l =>
      rw [hl] at hc
      simp only at hc
      cases draw with
      | true =>
        simp only [if_true] at hc
        split at hc
        · rename_i hm
          obtain ⟨t, ht, rfl⟩ := Option.map_eq_some_iff.1 hc
          intro C a w hn hr
          refine wp_region_any hm (anyA_sound hF hl hn (K := fun st' => Q .normal (st'.cut (annOf ann id).lo (annOf ann id).keep)) (fun st' a' w' hk hr' => ⟨_, hk, hr'.cut _ _⟩) _ _ st a _ ?_ (compD_sound (fun _ h => endOf_ok h) _ _ t st (Closed.none _ _) ht h))
          obtain ⟨G, hG⟩ := hr
          exact ⟨G, hG.drew⟩
        · cases hc
      | false =>
        simp only [Bool.false_eq_true, if_false] at hc
        obtain rfl := Option.some.inj hc
        intro C a w hn hr
        exact wp_region_list (opsWp_sound hF _ _ hl hn hr h fun st' a' w' hk hr' => ⟨_, hk, hr'.cut _ _⟩)
  | .seq x y, ann, rc, Q, st, hc, h => by
    simp only [comp] at hc
    cases hx : comp E.P n ann x with
    | none => rw [hx] at hc; cases hc
    | some x' =>
      cases hy : comp E.P n ann y with
      | none => rw [hx, hy] at hc; cases hc
      | some y' =>
        rw [hx, hy] at hc
        obtain rfl := Option.some.inj hc
        intro C a w hn hr
        refine wp_seq (Code.wp_mono ?_ (RC.sound hF x ann x' _ st hx h C a w hn hr))
        rintro e a' w' ⟨st', h1, h2⟩
        cases e with
        | normal => exact RC.sound hF y ann y' Q st' hy h1 C a' w' hn h2
        | _ => exact ⟨st', h1, h2⟩
  | .cond c x y, ann, rc, Q, st, hc, h => by
    simp only [comp] at hc
    cases hcc : copd c with
    | none => rw [hcc] at hc; cases hc
    | some c' =>
      cases hx : comp E.P n ann x with
      | none => rw [hcc, hx] at hc; cases hc
      | some x' =>
        cases hy : comp E.P n ann y with
        | none => rw [hcc, hx, hy] at hc; cases hc
        | some y' =>
          rw [hcc, hx, hy] at hc
          obtain rfl := Option.some.inj hc
          intro C a w hn hr
          simp only [RC.wp] at h
          split at h
          · rename_i b hb
            obtain ⟨G, hG⟩ := hr
            have r := hG.ev hcc
            rw [hb] at r
            generalize hu : a.eval c = u at r
            cases r
            unfold cnd at h
            cases b with
            | true => rw [if_pos rfl, St.knows_self hb] at h; exact wp_cond_true hu (RC.sound hF x ann x' Q st hx h C a w hn ⟨G, hG⟩)
            | false => rw [if_neg (by simp), St.knows_self hb] at h; exact wp_cond_false hu (RC.sound hF y ann y' Q st hy h C a w hn ⟨G, hG⟩)
          · exact h.elim
  | .block id b, ann, rc, Q, st, hc, h => by
    simp only [comp] at hc
    obtain ⟨b', hb, rfl⟩ := Option.map_eq_some_iff.1 hc
    intro C a w hn hr
    refine wp_block (Code.wp_mono ?_ (RC.sound hF b ann b' _ st hb h C a w hn hr))
    rintro e a' w' ⟨st', h1, h2⟩
    cases e with
    | exit id' =>
      simp only [inBlk] at h1
      simp only [Exit.inBlock]
      by_cases hid : id' = id
      · rw [if_pos hid] at h1 ⊢; exact ⟨st', h1, h2⟩
      · rw [if_neg hid] at h1 ⊢; exact ⟨st', h1, h2⟩
    | _ => exact ⟨st', h1, h2⟩
  | .loop b, ann, rc, Q, st, hc, h => by
    simp only [comp] at hc
    obtain ⟨b', hb, rfl⟩ := Option.map_eq_some_iff.1 hc
    exact h b ann hb
  | .exit id, ann, rc, Q, st, hc, h => by
    obtain rfl := Option.some.inj hc
    exact fun C a w hn hr => wp_exit ⟨st, h, hr⟩
  | .ret, ann, rc, Q, st, hc, h => by
    obtain rfl := Option.some.inj hc
    exact fun C a w hn hr => wp_ret ⟨st, h, hr⟩
  | .rangeFunc .., ann, rc, Q, st, hc, h => by cases hc
  | .scope .., ann, rc, Q, st, hc, h => by cases hc
  | .label .., ann, rc, Q, st, hc, h => by cases hc
  | .goto .., ann, rc, Q, st, hc, h => by cases hc
  | .refuse .., ann, rc, Q, st, hc, h => by cases hc

theorem RC.wp_mono {E : Prg} {F : FTab} {n : Nat} : ∀ (c : RC) {Q Q' : Exit → St → Prop} {st : St}, c.wp E F n Q st → (∀ e st, Q e st → Q' e st) → c.wp E F n Q' st
  | .skip, Q, Q', st, h, hq => hq _ _ h
  | .reg ops lo keep, Q, Q', st, h, hq => opsWp_mono ops h fun st hh => hq _ _ hh
  | .regD t lo keep, Q, Q', st, h, hq => OT.wp_mono t h fun st hh => hq _ _ hh
  | .seq a b, Q, Q', st, h, hq => RC.wp_mono a h fun e st hh => by
    cases e with
    | normal => exact RC.wp_mono b hh hq
    | _ => exact hq _ _ hh
  | .cond c a b, Q, Q', st, h, hq => by
    simp only [RC.wp] at h ⊢
    split at h
    · unfold cnd at h ⊢
      split at h
      · rename_i hb; rw [if_pos hb]; exact RC.wp_mono a h hq
      · rename_i hb; rw [if_neg hb]; exact RC.wp_mono b h hq
    · exact h.elim
  | .blk id b, Q, Q', st, h, hq => RC.wp_mono b h fun e st hh => by
    cases e with
    | exit id' =>
      simp only [inBlk] at hh ⊢
      split at hh
      · rename_i hb; rw [if_pos hb]; exact hq _ _ hh
      · rename_i hb; rw [if_neg hb]; exact hq _ _ hh
    | _ => exact hq _ _ hh
  | .loop b, Q, Q', st, h, hq => fun c ann hc => (h c ann hc).mono hq
  | .ext id, Q, Q', st, h, hq => hq _ _ h
  | .ret, Q, Q', st, h, hq => hq _ _ h

/-! ### Loops -/
def envWk (e e' : List (Nat × DV)) : Prop := ∀ x, x ∈ e' → x.2 = .undef ∨ wkT (St.look x.1 e) x.2
def objsWk : Objs → Objs → Prop
  | [], [] => True
  | a :: l, b :: l' => (b = none ∨ a = b) ∧ objsWk l l'
  | _, _ => False
/-- The second state tells no more than the first. -/
def St.wk (s s' : St) : Prop := envWk s.env s'.env ∧ objsWk s.objs s'.objs

theorem look_mem (t : Nat) : ∀ l : List (Nat × DV), St.look t l = .undef ∨ (t, St.look t l) ∈ l
  | [] => .inl rfl
  | (k, d) :: l => by
    simp only [St.look]
    by_cases h : k = t
    · subst h; simp
    · rw [if_neg h]
      rcases look_mem t l with h1 | h1
      · exact .inl h1
      · exact .inr (List.mem_cons_of_mem _ h1)
theorem objsWk_len : ∀ {a b : Objs}, objsWk a b → b.length = a.length ∧ ∀ (k : Nat) (ob : Ob), b[k]? = some (some ob) → a[k]? = some (some ob)
  | [], [], _ => ⟨rfl, fun _ _ h => h⟩
  | a :: l, b :: l', ⟨h1, h2⟩ => by
    obtain ⟨h3, h4⟩ := objsWk_len h2
    refine ⟨by simp [h3], fun k ob hk => ?_⟩
    rcases k with _ | k
    · simp at hk ⊢
      rcases h1 with h1 | h1
      · rw [h1] at hk; cases hk
      · rw [h1]; exact hk
    · simpa using h4 k ob (by simpa using hk)
  | [], _ :: _, h => h.elim
  | _ :: _, [], h => h.elim
theorem objsWk_refl : ∀ a : Objs, objsWk a a
  | [] => trivial
  | _ :: l => ⟨.inr rfl, objsWk_refl l⟩
theorem RelSt.wk {E : Prg} {C : Ctx} {st st' : St} {a : Act} {w : World} (h : RelSt E C st a w) (hw : st.wk st') : RelSt E C st' a w := by
  obtain ⟨G, h⟩ := h
  obtain ⟨h1, h2⟩ := hw
  obtain ⟨h3, h4⟩ := objsWk_len h2
  refine ⟨G, fun t => ?_, h.num, h.defs, h.heap.sub h3 h4,
   ⟨h.frm.os, h.frm.tape, h.frm.output, h.frm.size, h.frm.blk, h.frm.cell, h.frm.frz, fun k r q m hk => h.frm.mine k r q m (h4 k r hk), h.frm.rdn, h.frm.le, h.frm.mko⟩, h.glob⟩
  show Rel G (St.look t st'.env) _
  rcases look_mem t st'.env with h5 | h5
  · rw [h5]; exact .undef _
  · rcases h1 _ h5 with h6 | h6
    · simp only at h6; rw [h6]; exact .undef _
    · exact wkT_rel h6 (h.env t)

theorem exists_least (p : Nat → Prop) : ∀ n, p n → ∃ m, p m ∧ ∀ k, p k → m ≤ k := by
  intro n
  induction n using Nat.strongRecOn with
  | _ n ih =>
    intro hn
    by_cases h : ∃ k, k < n ∧ p k
    · obtain ⟨k, hk, hp⟩ := h
      exact ih k hk hp
    · exact ⟨n, hn, fun k hk => by
        rcases Nat.lt_or_ge k n with h1 | h1
        · exact absurd ⟨k, h1, hk⟩ h
        · exact h1⟩

/-- A loop, by what holds at each round's head and a measure. -/
theorem LoopWp.inv {E : Prg} {F : FTab} (hF : FOk E F) {n : Nat} {b : RC} {Q : Exit → St → Prop} {st : St} {σ : Type} (S : σ → St) (I : σ → Prop) (μ : σ → Nat) (s0 : σ) (h0 : I s0) (hw : st.wk (S s0))
    (round : ∀ s, I s → b.wp E F n (fun e st' => match e with
      | .normal => ∃ s', st'.wk (S s') ∧ I s' ∧ μ s' < μ s
      | e => Q e st') (S s)) : LoopWp E n b Q st := by
  intro c ann hc C a w hn hr
  let J : Act → World → Nat → Prop := fun a w m => ∃ s, I s ∧ RelSt E C (S s) a w ∧ μ s = m
  have hex : ∀ a w, (∃ m, J a w m) → ∃ m, J a w m ∧ ∀ k, J a w k → m ≤ k := fun a w ⟨m, hm⟩ => exists_least _ m hm
  open Classical in
  let f : Act → World → Nat := fun a w => if h : ∃ m, J a w m then Classical.choose (hex a w h) else 0
  have hf : ∀ a w, (∃ m, J a w m) → J a w (f a w) ∧ ∀ k, J a w k → f a w ≤ k := fun a w h => by
    simp only [f, dif_pos h]
    exact Classical.choose_spec (hex a w h)
  refine wp_loop (fun a w => ∃ m, J a w m) f ⟨μ s0, s0, h0, hr.wk hw, rfl⟩ (fun a w hJ => ?_)
  obtain ⟨⟨s, hI, hrs, hm⟩, hmin⟩ := hf a w hJ
  refine Code.wp_mono ?_ (RC.sound hF c ann b _ (S s) hc (round s hI) C a w hn hrs)
  rintro e a' w' ⟨st', h1, h2⟩
  cases e with
  | normal =>
    obtain ⟨s', hw', hI', hlt⟩ := h1
    have hJ' : J a' w' (μ s') := ⟨s', hI', h2.wk hw', rfl⟩
    refine ⟨⟨_, hJ'⟩, ?_⟩
    have := (hf a' w' ⟨_, hJ'⟩).2 _ hJ'
    omega
  | _ => exact ⟨st', h1, h2⟩

/-! ### A function -/
def initEnv : Nat → List DV → List (Nat × DV)
  | _, [] => []
  | k, d :: l => (k, d) :: initEnv (k + 1) l

theorem look_init (t : Nat) : ∀ (k : Nat) (l : List DV), St.look t (initEnv k l) = if k ≤ t then (l[t - k]?).getD .undef else .undef
  | k, [] => by simp [initEnv, St.look]
  | k, d :: l => by
    simp only [initEnv, St.look, look_init t (k + 1) l]
    by_cases h : k = t
    · subst h; simp
    · rw [if_neg h]
      by_cases h2 : k ≤ t
      · rw [if_pos h2, if_pos (by omega), show t - k = (t - (k + 1)) + 1 by omega, List.getElem?_cons_succ]
      · rw [if_neg h2, if_neg (by omega)]

def finQ (rs : List Res) (R : DV → Objs → Prop) : Exit → St → Prop
  | .normal, st => match resOf st rs with
    | some d => R d st.objs
    | none => False
  | .ret, st => match resOf st rs with
    | some d => R d st.objs
    | none => False
  | _, _ => False

def cRes (P : Program) : List ResultVar → Option (List Res)
  | [] => some []
  | .tmp t :: l => (cRes P l).map (.t t :: ·)
  | .cell t ty :: l => match tyAgg P ty, tySize P ty, cRes P l with
    | some ag, some sz, some l' => some (.c t ag sz :: l')
    | _, _, _ => none
theorem cRes_ok {P : Program} : ∀ {l : List ResultVar} {l' : List Res}, cRes P l = some l' → resOk P l l'
  | [], l', h => by obtain rfl := Option.some.inj h; trivial
  | .tmp t :: l, l', h => by
    obtain ⟨l2, h2, rfl⟩ := Option.map_eq_some_iff.1 h
    exact ⟨rfl, cRes_ok h2⟩
  | .cell t ty :: l, l', h => by
    simp only [cRes] at h
    split at h
    · rename_i ag sz l2 h1 h2 h3
      obtain rfl := Option.some.inj h
      exact ⟨rfl, h1, h2, cRes_ok h3⟩
    · cases h

/-- A function's code and results, sizes told. -/
structure RFn where
  np : Nat
  n : Nat
  code : RC
  res : List Res
def compFn (P : Program) (ann : List Ann) (f : FuncId) : Option RFn :=
  match P.funcs[f]? with
  | some fn => (match fn.body with
    | some c => (match comp P fn.ntmps ann c, cRes P fn.results.toList with
      | some rc, some rs => some ⟨fn.params.size, fn.ntmps, rc, rs⟩
      | _, _ => none)
    | none => none)
  | none => none

theorem Frm.start {E : Prg} {G : Gh} {T : Objs} {w : World} (hh : Heap G T w) (n : Nat) : Frm ⟨w, G, cellsOf G T, n⟩ G T w :=
  ⟨rfl, rfl, rfl, Nat.le_refl _, fun _ _ _ => rfl, fun _ _ _ => rfl, fun _ _ _ _ => rfl, fun k ob p m h1 h2 h3 => .inr ⟨k, ob, p, m, h1, h2, h3, rfl⟩, fun _ _ h => .inl h, .refl _, fun _ _ h => h⟩

theorem Frm.ctx {w0 : World} {G0 : Gh} {W : Addr → Prop} {n m : Nat} {G : Gh} {T : Objs} {w : World} (h : Frm ⟨w0, G0, W, n⟩ G T w) : Frm ⟨w0, G0, W, m⟩ G T w :=
  ⟨h.os, h.tape, h.output, h.size, h.blk, h.cell, h.frz, h.mine, h.rdn, h.le, h.mko⟩

/-- A function does what its code does. -/
theorem GCalls.of_fn {E : Prg} {F : FTab} (hF : FOk E F) {f : Nat} {ann : List Ann} {rf : RFn} {args : List DV} {T : Objs} {R : DV → Objs → Prop} (hc : compFn E.P ann f = some rf) (hargs : args.length ≤ rf.n)
    (h : rf.code.wp E F rf.n (finQ rf.res fun d T' => T.length ≤ T'.length ∧ R d T') ⟨initEnv 0 args, T⟩) : GCalls E f args T R := by
  unfold compFn at hc
  cases hf : E.P.funcs[f]? with
  | none => rw [hf] at hc; cases hc
  | some fn =>
    rw [hf] at hc
    simp only at hc
    cases hb : fn.body with
    | none => rw [hb] at hc; cases hc
    | some c =>
      rw [hb] at hc
      simp only at hc
      cases h1 : comp E.P fn.ntmps ann c with
      | none => rw [h1] at hc; cases hc
      | some rc =>
        cases h2 : cRes E.P fn.results.toList with
        | none => rw [h1, h2] at hc; cases hc
        | some rs =>
          rw [h1, h2] at hc
          obtain rfl := Option.some.inj hc
          intro G w vs hglob hh hvs hrel
          refine calls_of_wp hf hb ?_
          have hsize : (vs ++ Array.replicate (fn.ntmps - vs.size) undef).size = fn.ntmps := by simp; simp at hargs; omega
          have hr : RelSt E ⟨w, G, cellsOf G T, fn.ntmps⟩ ⟨initEnv 0 args, T⟩ { tmps := vs ++ Array.replicate (fn.ntmps - vs.size) undef, defers := [] } w := by
            refine ⟨G, ⟨fun t => ?_, hsize, rfl, hh, Frm.start (E := E) hh _, hglob⟩⟩
            show Rel G (St.look t (initEnv 0 args)) _
            rw [look_init]
            simp only [Nat.zero_le, if_true, Nat.sub_zero]
            cases ht : args[t]? with
            | none => exact .undef _
            | some d =>
              have hlt : t < vs.size := by rw [hvs]; exact (List.getElem?_eq_some_iff.1 ht).1
              have := hrel t d ht
              rw [Array.getD_eq_getD_getElem?] at this ⊢
              rw [Array.getElem?_append_left hlt]
              exact this
          refine Code.wp_mono ?_ (RC.sound hF c ann rc _ _ h1 h ⟨w, G, cellsOf G T, fn.ntmps⟩ _ w rfl hr)
          rintro e a' w' ⟨st', h3, G', hG'⟩
          have fin : (match resOf st' rs with
              | some d => T.length ≤ st'.objs.length ∧ R d st'.objs
              | none => False) → a'.defers = [] ∧ ∃ v, (results fn a'.tmps).run E.P w' = .ok v w' ∧ (∃ v' r T' G'', Ending.returned v = .returned v' ∧ R r T' ∧ T.length ≤ T'.length ∧ Rel G'' r v' ∧ Heap G'' T' w' ∧ Frm ⟨w, G, cellsOf G T, 0⟩ G'' T' w') := by
            intro h3
            cases hres : resOf st' rs with
            | none => rw [hres] at h3; exact h3.elim
            | some d =>
              rw [hres] at h3
              obtain ⟨v, hv1, hv2⟩ := resOf_run hG' (cRes_ok h2) hres
              exact ⟨hG'.defs, v, hv1, v, d, st'.objs, G', rfl, h3.2, h3.1, hv2, hG'.heap, hG'.frm.ctx⟩
          cases e with
          | normal => exact fin h3
          | ret => exact fin h3
          | _ => exact h3.elim

/-- A call in line: the callee's code, over the caller's table. -/
theorem CallK.of_fn {E : Prg} {F : FTab} (hF : FOk E F) {f : Nat} {ann : List Ann} {rf : RFn} {args : List DV} {T : Objs} {K : DV → Objs → Prop} (hc : compFn E.P ann f = some rf) (hargs : args.length ≤ rf.n)
    (h : rf.code.wp E F rf.n (finQ rf.res fun d T' => T.length ≤ T'.length ∧ K d T') ⟨initEnv 0 args, T⟩) : CallK E f args T K := CallK.all (GCalls.of_fn hF hc hargs h)
theorem finQ_mono {rs : List Res} {R R' : DV → Objs → Prop} (h : ∀ d T, R d T → R' d T) (e : Exit) (st : St) (hq : finQ rs R e st) : finQ rs R' e st := by
  have key : ∀ st : St, (match resOf st rs with
      | some d => R d st.objs
      | none => False) → (match resOf st rs with
      | some d => R' d st.objs
      | none => False) := fun st hh => by
    cases hres : resOf st rs with
    | none => rw [hres] at hh; exact hh
    | some d => rw [hres] at hh; exact h _ _ hh
  cases e with
  | normal => exact key st hq
  | ret => exact key st hq
  | _ => exact hq
/-- What is known of a function is its code. -/
def RFn.spec (E : Prg) (F : FTab) (rf : RFn) (args : List DV) : PSpec :=
  ⟨fun T K => rf.code.wp E F rf.n (finQ rf.res fun d T' => T.length ≤ T'.length ∧ K d T') ⟨initEnv 0 args, T⟩, fun T K K' h hk => RC.wp_mono _ h fun e st hq => finQ_mono (fun d T' hh => ⟨hh.1, hk _ _ hh.2⟩) e st hq⟩
theorem PCalls.of_fn {E : Prg} {F : FTab} (hF : FOk E F) {f : Nat} {ann : List Ann} {rf : RFn} {args : List DV} {R : Nat → DV → Objs → Prop} (hc : compFn E.P ann f = some rf) (hargs : args.length ≤ rf.n)
    (h : ∀ n, rf.code.wp E F rf.n (finQ rf.res fun d T' => ∃ os, T' = List.replicate n none ++ os ∧ R n d os) ⟨initEnv 0 args, List.replicate n none⟩) : PCalls E f args R := by
  intro n
  refine GCalls.of_fn hF hc hargs (RC.wp_mono _ (h n) fun e st hh => ?_)
  have key : ∀ st : St, (match resOf st rf.res with
      | some d => ∃ os, st.objs = List.replicate n none ++ os ∧ R n d os
      | none => False) → (match resOf st rf.res with
      | some d => (List.replicate n (none : Option Ob)).length ≤ st.objs.length ∧ ∃ os, st.objs = List.replicate n none ++ os ∧ R n d os
      | none => False) := fun st hh => by
    cases hres : resOf st rf.res with
    | none => rw [hres] at hh; exact hh
    | some d =>
      rw [hres] at hh
      obtain ⟨os, ho, hR⟩ := hh
      exact ⟨by rw [ho]; simp, os, ho, hR⟩
  cases e with
  | normal => exact key st hh
  | ret => exact key st hh
  | _ => exact hh

theorem PCalls.mono {E : Prg} {f : Nat} {args : List DV} {R R' : Nat → DV → Objs → Prop} (h : PCalls E f args R) (hR : ∀ n r os, R n r os → R' n r os) : PCalls E f args R' :=
  fun n => (h n).mono fun r T' ⟨os, h1, h2⟩ => ⟨os, h1, hR _ _ _ h2⟩

/-- A table of functions' laws, one by one. -/
inductive Ent where
  | o (g : List DV → Option FSpec)
  | h (g : List DV → Option HSpec)
  | p (g : List DV → Option PSpec)
def Ent.app : Ent → List DV → Option FS
  | .o g, a => (g a).map .o
  | .h g, a => (g a).map .h
  | .p g, a => (g a).map .p
instance : Coe (List DV → Option FSpec) Ent := ⟨.o⟩
instance : Coe (List DV → Option HSpec) Ent := ⟨.h⟩
instance : Coe (List DV → Option PSpec) Ent := ⟨.p⟩
abbrev FL := List (Nat × Ent)
def tab (l : FL) : FTab := fun f args => match l.lookup f with
  | some g => g.app args
  | none => none
theorem FOk.nil {E : Prg} : FOk E (tab []) := ⟨fun f args s h => (by cases h), fun f args s h => (by cases h)⟩
theorem tab_eq (f : Nat) (g : Ent) (l : FL) (k : Nat) (args : List DV) : tab ((f, g) :: l) k args = if k = f then g.app args else tab l k args := by
  unfold tab
  simp only [List.lookup]
  by_cases e : k = f
  · subst e; simp
  · rw [beq_false_of_ne e, if_neg e]
theorem FOk.cons {E : Prg} {f : Nat} {g : List DV → Option FSpec} {l : FL} (hl : FOk E (tab l)) (h : ∀ args s, g args = some s → s.pre → PCalls E f args fun n r os => r = (s.res n).1 ∧ os = (s.res n).2) : FOk E (tab ((f, .o g) :: l)) := by
  refine ⟨fun k args s hs hp => ?_, fun k args s hs => ?_⟩
  · rw [tab_eq] at hs
    split at hs
    · rename_i e
      subst e
      simp only [Ent.app, Option.map_eq_some_iff] at hs
      obtain ⟨s', h1, h2⟩ := hs
      obtain rfl := FS.o.inj h2
      exact h args s' h1 hp
    · exact hl.1 k args s hs hp
  · rw [tab_eq] at hs
    split at hs
    · simp only [Ent.app, Option.map_eq_some_iff] at hs
      obtain ⟨s', _, h2⟩ := hs
      cases h2
    · exact hl.2 k args s hs
theorem FOk.consH {E : Prg} {f : Nat} {g : List DV → Option HSpec} {l : FL} (hl : FOk E (tab l)) (h : ∀ args s, g args = some s → HOk E f args s) : FOk E (tab ((f, .h g) :: l)) := by
  refine ⟨fun k args s hs hp => ?_, fun k args s hs T K hp => ?_⟩
  · rw [tab_eq] at hs
    split at hs
    · simp only [Ent.app, Option.map_eq_some_iff] at hs
      obtain ⟨s', _, h2⟩ := hs
      cases h2
    · exact hl.1 k args s hs hp
  · rw [tab_eq] at hs
    split at hs
    · rename_i e
      subst e
      simp only [Ent.app, Option.map_eq_some_iff] at hs
      obtain ⟨s', h1, h2⟩ := hs
      obtain rfl := FS.p.inj h2
      exact h args s' h1 T K hp.1 hp.2
    · exact hl.2 k args s hs T K hp
theorem FOk.consP {E : Prg} {f : Nat} {g : List DV → Option PSpec} {l : FL} (hl : FOk E (tab l)) (h : ∀ args s, g args = some s → ∀ (T : Objs) (K : DV → Objs → Prop), s.wp T K → CallK E f args T K) : FOk E (tab ((f, .p g) :: l)) := by
  refine ⟨fun k args s hs hp => ?_, fun k args s hs T K hp => ?_⟩
  · rw [tab_eq] at hs
    split at hs
    · simp only [Ent.app, Option.map_eq_some_iff] at hs
      obtain ⟨s', _, h2⟩ := hs
      cases h2
    · exact hl.1 k args s hs hp
  · rw [tab_eq] at hs
    split at hs
    · rename_i e
      subst e
      simp only [Ent.app, Option.map_eq_some_iff] at hs
      obtain ⟨s', h1, h2⟩ := hs
      obtain rfl := FS.p.inj h2
      exact h args s' h1 T K hp
    · exact hl.2 k args s hs T K hp

/-- One by one, told by its code. -/
theorem FSpec.of_fn {E : Prg} {F : FTab} (hF : FOk E F) {f : Nat} {ann : List Ann} {rf : RFn} {args : List DV} {s : FSpec} (hc : compFn E.P ann f = some rf) (hargs : args.length ≤ rf.n)
    (h : ∀ n, rf.code.wp E F rf.n (finQ rf.res fun d T' => d = (s.res n).1 ∧ T' = List.replicate n none ++ (s.res n).2) ⟨initEnv 0 args, List.replicate n none⟩) : PCalls E f args fun n r os => r = (s.res n).1 ∧ os = (s.res n).2 :=
  PCalls.of_fn hF hc hargs fun n => RC.wp_mono _ (h n) fun e st hh => by
    have key : ∀ st : St, (match resOf st rf.res with
        | some d => d = (s.res n).1 ∧ st.objs = List.replicate n none ++ (s.res n).2
        | none => False) → (match resOf st rf.res with
        | some d => ∃ os, st.objs = List.replicate n none ++ os ∧ d = (s.res n).1 ∧ os = (s.res n).2
        | none => False) := fun st hh => by
      cases hres : resOf st rf.res with
      | none => rw [hres] at hh; exact hh
      | some d => rw [hres] at hh; exact ⟨_, hh.2, hh.1, rfl⟩
    cases e with
    | normal => exact key st hh
    | ret => exact key st hh
    | _ => exact hh

end Go.Proofs.Ytaopaongpoecoaa
