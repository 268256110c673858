/- Each operation does what 'rval' says: slices, append, copy, make, conversions of bytes. -/
import Derived.Test.YtaopaongpoecoaaAb6
import Derived.Laws.AppendOwn
import Derived.Lib.ConvBytes
set_option linter.unusedVariables false
set_option linter.unusedSimpArgs false
namespace Go.Proofs.Ytaopaongpoecoaa
open Go.RowKit

def copdO : Option Operand → Option (Option Opd)
  | none => some none
  | some x => (copd x).map some

/-- A bound as the model has it. -/
def NatV (v : Option Value) (dflt n : Nat) : Prop := (v = none ∧ n = dflt) ∨ ∃ k i, v = some (.int k i) ∧ 0 ≤ i ∧ n = i.toNat

theorem natOf_val {E : Prg} {C : Ctx} {G : Gh} {st : St} {a : Act} {w : World} (h : RelG E C G st a w) {x : Option Operand} {y : Option Opd} (hx : copdO x = some y) {dflt n : Nat} (hn : natOf st E dflt y = some n) :
    NatV (x.map a.eval) dflt n := by
  cases x with
  | none =>
    obtain rfl := Option.some.inj hx
    obtain rfl := Option.some.inj hn
    exact .inl ⟨rfl, rfl⟩
  | some x =>
    obtain ⟨y', hy, rfl⟩ := Option.map_eq_some_iff.1 hx
    have r := h.ev hy
    unfold natOf at hn
    simp only at hn
    split at hn
    · rename_i k i e1
      rw [e1] at r
      split at hn
      · rename_i h0
        obtain rfl := Option.some.inj hn
        refine .inr ⟨k, i, ?_, h0, rfl⟩
        generalize hu : a.eval x = u at r
        cases r
        simp [hu]
      · cases hn
    · cases hn

theorem run_sliceBound {P : Program} {w : World} {k : IntKind} {i : Int} {y : Nat} (c : BoundsCode) (h0 : 0 ≤ i) (h : i.toNat ≤ y) : (Instr.sliceBound (.int k i) y c).run P w = .ok i.toNat w := by
  have : 0 ≤ i ∧ i ≤ (y : Int) := ⟨h0, by omega⟩
  simp [Instr.sliceBound, asIntOf, this]

theorem run_sliceBounds {P : Program} {w : World} {isS : Bool} {lo hi : Option Value} {len cap l h : Nat} (h1 : NatV lo 0 l) (h2 : NatV hi len h) (hlh : l ≤ h) (hc : h ≤ cap) :
    (Instr.sliceBounds isS len cap lo hi none).run P w = .ok (l, h, cap) w := by
  rcases h1 with ⟨rfl, rfl⟩ | ⟨k, i, rfl, hi0, rfl⟩ <;> rcases h2 with ⟨rfl, rfl⟩ | ⟨k', i', rfl, hi0', rfl⟩ <;>
    simp_all [Instr.sliceBounds, run_sliceBound]

theorem run_sliceBounds3 {P : Program} {w : World} {isS : Bool} {lo hi mx : Option Value} {len cap l h : Nat} (h1 : NatV lo 0 l) (h2 : NatV hi len h) (h3 : NatV mx 0 h) (hm : mx.isSome = true) (hh : hi.isSome = true) (hlh : l ≤ h) (hc : h ≤ cap) :
    (Instr.sliceBounds isS len cap lo hi mx).run P w = .ok (l, h, h) w := by
  rcases h1 with ⟨rfl, rfl⟩ | ⟨k, i, rfl, hi0, rfl⟩ <;> rcases h2 with ⟨rfl, rfl⟩ | ⟨k', i', rfl, hi0', rfl⟩ <;> rcases h3 with ⟨rfl, h3⟩ | ⟨k'', i'', rfl, hi0'', h3⟩ <;>
    simp_all [Instr.sliceBounds, run_sliceBound]

theorem Rel.slCut {G : Gh} {rows : List (List DV)} {k : SK} {p : Option Addr} {len cap s sz l h : Nat} (r : Rel G (.sl s rows k) (.slice p len cap)) (hlh : l ≤ h) (hh : h ≤ rows.length) (hsz : s = sz ∨ rows = [])
    (m : Nat) (hm : h ≤ m) (hmc : m ≤ cap) (k' : SK) (hk' : k'.ok (if m = l then p else p.map (·.add (l * sz))) (m - l)) :
    Rel G (.sl s ((rows.drop l).take (h - l)) k') (.slice (if m = l then p else p.map (·.add (l * sz))) (h - l) (m - l)) := by
  cases r with
  | sl _ _ _ _ _ _ b o vals hl hk hlc hp hrl hrd hrel =>
    have hget : ∀ (i : Nat) row, ((rows.drop l).take (h - l))[i]? = some row → rows[l + i]? = some row := fun i row hi => by
      rw [List.getElem?_take] at hi
      split at hi
      · rwa [List.getElem?_drop] at hi
      · cases hi
    refine .sl s _ k' _ _ _ b (o + l * s) (fun i j => vals (l + i) j) (by simp; omega) hk' (by omega) (fun hne => ?_) (fun i row hi => hrl _ row (hget i row hi)) (fun i j row c hi hj => ?_) (fun i j row c hi hj => hrel (l + i) j row c (hget i row hi) hj)
    · have h1 : l < h := by
        rcases Nat.lt_or_ge l h with h1 | h1
        · exact h1
        · exact absurd (by simp; omega) hne
      have hrn : rows ≠ [] := fun e => by subst e; simp at hh; omega
      rw [if_neg (by omega), hp hrn, hsz.resolve_right hrn]
      simp [Addr.add_lit]
    · have := hrd (l + i) j row c (hget i row hi) hj
      rw [Nat.add_mul] at this
      rw [← this]
      congr 2
      omega

theorem ok_slice {E : Prg} {o : Oper} {t e : TypeId} {sz : Nat} {x : Operand} {y : Opd} {lo hi mx : Option Operand} {lo' hi' mx' : Option Opd} (ho : o.op = .slice t x lo hi mx) (ht : E.P.underlying t = some (.slice e)) (hsz : tySize E.P e = some sz)
    (hx : copd x = some y) (h1 : copdO lo = some lo') (h2 : copdO hi = some hi') (h3 : copdO mx = some mx') (hmx : mx.isSome = true → hi.isSome = true) : OpOk E o (.slice sz y lo' hi' mx') := by
  refine OpOk.quiet fun C G st a w d objs' hr hv => ?_
  simp only [rval] at hv
  have r1 := hr.ev hx
  generalize hu : a.eval x = u at r1
  have key : ∀ (p : Option Addr) (len cap l h m : Nat), u = .slice p len cap → (Instr.sliceBounds true len cap (lo.map a.eval) (hi.map a.eval) (mx.map a.eval)).run E.P w = .ok (l, h, m) w →
      (execOp a.eval o).run E.P w = .ok (.value (.slice (if m = l then p else p.map (·.add (l * sz))) (h - l) (m - l))) w := by
    intro p len cap l h m hp hb
    subst hp
    simp [execOp, ho, hu, Instr.sliceAt, Instr.slice, run_underlying ht, hb, run_sizeOf hsz]
  split at hv
  · rename_i s rows k e1
    rw [e1] at r1
    split at hv
    · rename_i l h hl hh
      split at hv
      · rename_i hc
        obtain ⟨hlh, hhl, hok⟩ := hc
        have nl := natOf_val hr h1 hl
        have nh := natOf_val hr h2 hh
        obtain ⟨p, len, cap, rfl⟩ : ∃ p len cap, u = .slice p len cap := by cases r1; exact ⟨_, _, _, rfl⟩
        have hlen : len = rows.length ∧ len ≤ cap ∧ k.ok p cap := by cases r1; exact ⟨by assumption, by assumption, by assumption⟩
        obtain ⟨rfl, hlc, hk⟩ := hlen
        split at hv
        · rename_i hm
          simp only [Option.some.injEq, Prod.mk.injEq] at hv
          obtain ⟨rfl, rfl⟩ := hv
          have hmn : mx = none := by
            cases mx with
            | none => rfl
            | some x => obtain ⟨y', _, h5⟩ := Option.map_eq_some_iff.1 h3; cases h5
          subst hmn
          refine ⟨rfl, _, key _ _ _ l h cap rfl (run_sliceBounds nl nh hlh (by omega)), r1.slCut hlh hhl hok cap (by omega) (Nat.le_refl _) k ?_⟩
          cases k <;> simp only [SK.ok] at hk ⊢
          · cases p with
            | none => have := hk rfl; intro _; omega
            | some A => split <;> simp
          · obtain ⟨rfl, rfl⟩ := hk; exact ⟨by simp, by omega⟩
          · cases p with
            | none => simp at hk
            | some A => split <;> simp
          · omega
        · rename_i m0
          split at hv
          · rename_i m hm
            split at hv
            · rename_i hmh
              subst hmh
              simp only [Option.some.injEq, Prod.mk.injEq] at hv
              obtain ⟨rfl, rfl⟩ := hv
              have hms : mx.isSome = true := by
                cases mx with
                | none => cases h3
                | some x => rfl
              have nm := natOf_val hr h3 hm
              refine ⟨rfl, _, key _ _ _ l m m rfl (run_sliceBounds3 nl nh nm (by cases mx <;> simp_all) (by have := hmx hms; cases hi <;> simp_all) hlh (by omega)), r1.slCut hlh hhl hok m (Nat.le_refl _) (by omega) _ ?_⟩
              by_cases hml : m = l
              · rw [if_pos hml, if_pos hml]
                by_cases hkn : k = .nil
                · subst hkn; rw [if_pos rfl]; exact ⟨hk.1, by omega⟩
                · rw [if_neg hkn]; show m - l = 0; omega
              · rw [if_neg hml]
                by_cases hkn : k = .nil
                · subst hkn
                  have := hk.2
                  omega
                · rw [if_neg hkn]
                  cases p with
                  | none =>
                    intro _
                    cases k <;> simp [SK.ok] at hk hkn
                    all_goals omega
                  | some A => simp only [SK.ok]; split <;> simp
            · cases hv
          · cases hv
      · cases hv
    · cases hv
  · rename_i ob off n e1
    rw [e1] at r1
    split at hv
    · rename_i l h hl hh
      split at hv
      · rename_i s rows hob
        split at hv
        · rename_i hc
          obtain ⟨hlh, hhn, hs⟩ := hc
          simp only [Option.some.injEq, Prod.mk.injEq] at hv
          obtain ⟨rfl, rfl⟩ := hv
          have nl := natOf_val hr h1 hl
          have nh := natOf_val hr h2 hh
          have hmn : mx = none := by
            cases mx with
            | none => rfl
            | some x => obtain ⟨y', _, h5⟩ := Option.map_eq_some_iff.1 h3; cases h5
          subst hmn
          obtain ⟨p, hp, hlv⟩ := hr.heap.live ob _ hob
          have hpsz : p.sz = s := hlv.psz
          cases r1 with
          | own _ _ _ q A c hq hcap hfit2 hA =>
            obtain rfl : q = p := Option.some.inj (hq.symm.trans hp)
            refine ⟨rfl, _, key _ _ _ l h c rfl (run_sliceBounds nl nh hlh (by omega)), .own ob (off + l) (h - l) q _ _ hp (by omega) (by omega) (fun hpos => ?_)⟩
            rw [if_neg (by omega), hA (by omega)]
            simp only [Option.map_some, cellAt_add]
            rw [Nat.add_mul, hpsz, hs]
        · cases hv
      · cases hv
    · cases hv
  · cases hv

theorem ok_sliceS {E : Prg} {o : Oper} {t : TypeId} {x : Operand} {y : Opd} {lo hi : Option Operand} {lo' hi' : Option Opd} (ho : o.op = .slice t x lo hi none) (ht : E.P.underlying t = some .string)
    (hx : copd x = some y) (h1 : copdO lo = some lo') (h2 : copdO hi = some hi') : OpOk E o (.sliceS y lo' hi') := by
  refine OpOk.quiet fun C G st a w d objs' hr hv => ?_
  simp only [rval] at hv
  have r1 := hr.ev hx
  generalize hu : a.eval x = u at r1
  split at hv
  · rename_i s e1
    rw [e1] at r1
    split at hv
    · rename_i l h hl hh
      split at hv
      · rename_i hc
        simp only [Option.some.injEq, Prod.mk.injEq] at hv
        obtain ⟨rfl, rfl⟩ := hv
        cases r1
        have nl := natOf_val hr h1 hl
        have nh := natOf_val hr h2 hh
        have hsz : (⟨s.toArray⟩ : ByteArray).size = s.length := by simp [ByteArray.size]
        have hb := run_sliceBounds (P := E.P) (w := w) (isS := false) nl nh hc.1 hc.2
        refine ⟨rfl, .string ((⟨s.toArray⟩ : ByteArray).extract l h), by simp [execOp, ho, hu, Instr.sliceAt, Instr.slice, run_underlying ht, hsz, hb, - ByteArray.size_data], ?_⟩
        have : ((⟨s.toArray⟩ : ByteArray).extract l h) = ⟨((s.drop l).take (h - l)).toArray⟩ := by
          apply ByteArray.ext
          apply Array.ext'
          simp [ByteArray.data_extract, List.extract_eq_take_drop]
        rw [this]
        exact .str _
      · cases hv
    · cases hv
  · cases hv

end Go.Proofs.Ytaopaongpoecoaa
