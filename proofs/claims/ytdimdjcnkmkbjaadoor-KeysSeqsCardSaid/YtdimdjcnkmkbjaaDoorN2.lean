/- Texts K4, K5, K6, K7 in one. -/
import Derived.Test.YtdimdjcnkmkbjaaDoorN1
set_option linter.unusedVariables false
set_option linter.unusedSimpArgs false
set_option maxRecDepth 10000
namespace Go.Proofs.YtdimdjcnkmkbjaaDoor
open Go.RowKit
noncomputable def rc_yclone : RFn := ⟨1, 8, .seq (.reg [⟨some 2, .mov (.c (.sl 0 [] .nil)), none, false⟩] 0 [0]) (.seq (.seq (.reg [⟨some 3, .mov (.t 0), none, false⟩, ⟨some 4, .eqNil false (.t 3) (.c (.sl 0 [] .nil)), none, false⟩] 0 [0, 4]) (.cond (.t 4) (.seq (.reg [⟨some 2, .mov (.c (.sl 0 [] .nil)), none, false⟩] 0 [2]) .ret) .skip)) (.seq (.reg [⟨some 5, .mkrow 1 [.int .u8 0] 0 [], none, false⟩, ⟨some 6, .mov (.t 0), none, false⟩, ⟨some 7, .append 1 1 (.t 5) (.t 6), none, false⟩, ⟨some 2, .mov (.t 7), none, false⟩] 0 [2]) .ret)), [.t 2]⟩
theorem rc_yclone_ok : compFn PG.P [⟨0, 0, [0], []⟩, ⟨1, 0, [0, 4], []⟩, ⟨2, 0, [2], []⟩, ⟨3, 0, [2], []⟩] 55 = some rc_yclone := by kernel_rfl
theorem yclone_nil {sz : Nat} : PCalls PG 55 [.sl sz [] .nil] fun n r os => r = .sl 0 [] .nil ∧ os = [] := by
  refine PCalls.by_fn (res := fun n => (.sl 0 [] .nil, [])) FOk.nil rc_yclone_ok (by simp [rc_yclone]) fun n => ?_
  unfold rc_yclone
  dsimp only
  simp -implicitDefEqProofs -dsimp only [vcS, ↓vcP1, ↓vcP2, ↓reduceIte, reduceCtorEq, Nat.reduceLT, Nat.reduceLeDiff, Nat.reduceEqDiff, Nat.reduceAdd, Nat.reduceSub, Nat.reduceMul, Int.reduceLT, Int.reduceLE, Int.reduceEq, Int.reduceToNat, Int.reduceAdd, Int.reduceSub, Int.reduceNeg, List.reduceReplicate, Nat.reducePow, Int.reduceMul]
theorem yclone_non {sz : Nat} : PCalls PG 55 [.sl sz [] .nonnil] fun n r os => r = .own n 0 0 ∧ os = [some (.arr 1 [])] := by
  refine PCalls.by_fn (res := fun n => (.own n 0 0, [some (.arr 1 [])])) FOk.nil rc_yclone_ok (by simp [rc_yclone]) fun n => ?_
  unfold rc_yclone
  dsimp only
  simp -implicitDefEqProofs -dsimp only [vcS, ↓vcP1, ↓vcP2, ↓reduceIte, reduceCtorEq, Nat.reduceLT, Nat.reduceLeDiff, Nat.reduceEqDiff, Nat.reduceAdd, Nat.reduceSub, Nat.reduceMul, Int.reduceLT, Int.reduceLE, Int.reduceEq, Int.reduceToNat, Int.reduceAdd, Int.reduceSub, Int.reduceNeg, List.reduceReplicate, Nat.reducePow, Int.reduceMul]
theorem rel_own0 {G : Gh} {o off : Nat} {v : Value} (h : Rel G (.own o off 0) v) : Rel G (.sl 1 [] .nil) v ∨ Rel G (.sl 1 [] .nonnil) v := by
  cases h with
  | own _ _ _ pl p c h1 h2 h3 h4 =>
    cases p with
    | none => exact .inl (.sl _ _ _ _ _ _ 0 0 (fun _ _ => undef) rfl ⟨rfl, by rcases Nat.eq_zero_or_pos c with h | h; exact h; exact absurd (h4 h) (by simp)⟩ (by omega) (by simp) (by simp) (by simp) (by simp))
    | some a => exact .inr (.sl _ _ _ _ _ _ 0 0 (fun _ _ => undef) rfl rfl (by omega) (by simp) (by simp) (by simp) (by simp))
theorem PCalls.own0 {E : Prg} {f : Nat} {o off : Nat} {R : Nat → DV → Objs → Prop} (h1 : PCalls E f [.sl 1 [] .nil] R) (h2 : PCalls E f [.sl 1 [] .nonnil] R) : PCalls E f [.own o off 0] R := by
  intro n G w vs hg hh hs hr
  have hr0 := hr 0 _ rfl
  have hx : ∀ {d : DV}, Rel G d (vs.getD 0 undef) → ∀ (i : Nat) d', [d][i]? = some d' → Rel G d' (vs.getD i undef) := by
    intro d h i d' hi
    match i with
    | 0 => simp at hi; subst hi; exact h
    | i + 1 => simp at hi
  rcases rel_own0 hr0 with h | h
  · exact h1 n G w vs hg hh hs (hx h)
  · exact h2 n G w vs hg hh hs (hx h)
def Lf (T : Objs) (d : DV) (S : List Int) : Prop := (∃ q, d = .own q 0 S.length ∧ T[q]? = some (some (.arr 1 (intRows .u8 S)))) ∨ (S = [] ∧ d = .sl 0 [] .nil)
theorem yclone_K {T : Objs} {q off n : Nat} {B : List Int} {K : DV → Objs → Prop} (hq : T[q]? = some (some (.arr 1 (intRows .u8 B)))) (hn : off + n ≤ B.length) (hl : B.length ≤ 1000000)
    (h : ∀ T' d, Keep T T' [] → Lf T' d ((B.drop off).take n) → (∀ p, d = .own p 0 n → T.length ≤ p) → K d T') : CallK PG 55 [.own q off n] T K := by
  rcases Nat.eq_zero_or_pos n with h0 | h0
  · subst h0
    refine CallK.pure (R := fun n r os => (r = .sl 0 [] .nil ∧ os = []) ∨ (r = .own n 0 0 ∧ os = [some (.arr 1 [])])) (PCalls.own0 (fun n => (yclone_nil n).mono fun r T' ⟨os, a, b⟩ => ⟨os, a, .inl b⟩) (fun n => (yclone_non n).mono fun r T' ⟨os, a, b⟩ => ⟨os, a, .inr b⟩)) fun r os hr => ?_
    rcases hr with ⟨rfl, rfl⟩ | ⟨rfl, rfl⟩
    · exact h _ _ (Keep.app _ _ _) (.inr ⟨by simp, rfl⟩) (by simp)
    · exact h _ _ (Keep.app _ _ _) (.inl ⟨T.length, by simp, tb_get0 T [] (some (Ob.arr 1 []))⟩) (by simp)
  · refine CallK.of_fn FOk.nil rc_yclone_ok (by simp [rc_yclone]) ?_
    unfold rc_yclone
    dsimp only
    simp -implicitDefEqProofs -dsimp only [tb_at, tb_all hq, h0, intRows_length, vcS, ↓vcP1, ↓vcP2, ↓reduceIte, reduceCtorEq, Nat.reduceLT, Nat.reduceLeDiff, Nat.reduceEqDiff, Nat.reduceAdd, Nat.reduceSub, Nat.reduceMul, Int.reduceLT, Int.reduceLE, Int.reduceEq, Int.reduceToNat, Int.reduceAdd, Int.reduceSub, Int.reduceNeg, List.reduceReplicate, Nat.reducePow, Int.reduceMul]
    have hlen : ((B.drop off).take n).length = n := by simp; omega
    rw [hlen]
    refine ⟨hn, by omega, h _ _ (Keep.app _ _ _) (.inl ⟨T.length + 1, by rw [hlen], tb_geti _ _ 1⟩) fun p hp => ?_⟩
    simp at hp; omega
def DecB (c h : Nat) (left : DV) (pa : Bool) (sc at' : Int) : Ob := .box [.mp c, .mp h, left, .bool pa, .int .i64 sc, .int .i64 at']
def headB (L : List Bd) (s : List Int) : Bool := decide (s ≠ []) && (decide (s.length < 6) && stB beginL s || L.any fun b => decide (s.length < b.seq.length) && stB b.seq s)
def CmdOk (C : List (List UInt8 × DV)) (L : List Bd) : Prop := ∀ s : List Int, inK .u8 s → getL (toB s) C = (findB L s).map fun b => .str b.cmd
def HeadOk (H : List (List UInt8 × DV)) (L : List Bd) : Prop := ∀ s : List Int, inK .u8 s → getL (toB s) H = if headB L s = true then some (.bool true) else none
structure DecAt (T : Objs) (o c h : Nat) (d : DV) (L : List Bd) (S : List Int) (pa : Bool) (sc at' : Int) : Prop where
  box : T[o]? = some (some (DecB c h d pa sc at'))
  lf : Lf T d S
  cm : ∃ C, T[c]? = some (some (.map (strE C))) ∧ CmdOk C L
  hd : ∃ H, T[h]? = some (some (.map (strE H))) ∧ HeadOk H L
  inS : inK .u8 S
  len : S.length ≤ 1000
def YB (r : DV) (S : List Int) : Prop := ∃ sz k, r = .sl sz (intRows .u8 S) k ∧ (sz = 1 ∨ S = [])
def Nw (n : Nat) (d : DV) : Prop := ∀ q off m, d = .own q off m → n ≤ q
theorem Keep.set1 (T : Objs) (o : Nat) (x : Option Ob) : Keep T (T.set o x) [o] := ⟨by simp, fun k ob hk hg => tb_ne hg _ (by simpa using hk)⟩
theorem Lf.one {T : Objs} {d : DV} {S : List Int} (h : Lf T d S) : d.cells = some [d] ∧ d.one = true := by
  rcases h with ⟨q, rfl, hq⟩ | ⟨_, rfl⟩ <;> exact ⟨rfl, rfl⟩
theorem Lf.set {T : Objs} {o : Nat} {d : DV} {S : List Int} {cs : List DV} {x : Option Ob} (h : Lf T d S) (hb : T[o]? = some (some (.box cs))) : Lf (T.set o x) d S := by
  rcases h with ⟨q, rfl, hq⟩ | h
  · exact .inl ⟨q, rfl, tb_ne hq _ (fun e => by rw [e, hb] at hq; simp at hq)⟩
  · exact .inr h
theorem Lf.keep {T T' : Objs} {d : DV} {S : List Int} {js : List Nat} (h : Lf T d S) (k : Keep T T' js) (hj : ∀ q off m, d = .own q off m → q ∉ js) : Lf T' d S := by
  rcases h with ⟨q, rfl, hq⟩ | h
  · exact .inl ⟨q, rfl, k.at hq (hj _ _ _ rfl)⟩
  · exact .inr h
theorem DecAt.put {T T2 : Objs} {o c h : Nat} {d d' : DV} {L : List Bd} {S S' : List Int} {pa pa' : Bool} {sc at' sc' at2 : Int} {js : List Nat} (D : DecAt T o c h d L S pa sc at') (k : Keep T T2 js) (hj : ∀ j ∈ js, ∃ s r, T[j]? = some (some (.arr s r))) (l : Lf T2 d' S') (hi : inK .u8 S') (hl : S'.length ≤ 1000) :
    DecAt (T2.set o (some (DecB c h d' pa' sc' at2))) o c h d' L S' pa' sc' at2 := by
  have hb := D.box
  unfold DecB at hb
  have nj : ∀ {k ob}, T[k]? = some (some ob) → (∀ s r, ob ≠ .arr s r) → k ∉ js := fun ha hn hm => by
    obtain ⟨s, r, h⟩ := hj _ hm
    rw [ha] at h; simp at h; exact hn _ _ h
  have hb2 := k.at hb (nj hb (by simp))
  obtain ⟨C, c1, c2⟩ := D.cm
  obtain ⟨H, h1, h2⟩ := D.hd
  exact ⟨tb_ss hb2 _, l.set hb2, ⟨C, tb_ne (k.at c1 (nj c1 (by simp))) _ (fun e => by rw [e, hb] at c1; simp at c1), c2⟩,
    ⟨H, tb_ne (k.at h1 (nj h1 (by simp))) _ (fun e => by rw [e, hb] at h1; simp at h1), h2⟩, hi, hl⟩
theorem DecAt.keep {T T' : Objs} {o c h : Nat} {d : DV} {L : List Bd} {S : List Int} {pa : Bool} {sc at' : Int} {js : List Nat} (D : DecAt T o c h d L S pa sc at') (k : Keep T T' js) (ho : o ∉ js) (hc : c ∉ js) (hh : h ∉ js) (hd : ∀ q off m, d = .own q off m → q ∉ js) : DecAt T' o c h d L S pa sc at' := by
  obtain ⟨C, c1, c2⟩ := D.cm
  obtain ⟨H, h1, h2⟩ := D.hd
  exact ⟨k.at D.box ho, D.lf.keep k hd, ⟨C, k.at c1 hc, c2⟩, ⟨H, k.at h1 hh, h2⟩, D.inS, D.len⟩
noncomputable def rc_ytake : RFn := ⟨2, 24, .seq (.reg [⟨some 4, .mov (.c (.sl 0 [] .nil)), none, false⟩] 0 [0, 1]) (.seq (.reg [⟨some 6, .mov (.t 0), none, false⟩, ⟨some 7, .nilck (.t 6), none, false⟩, ⟨some 8, .faddr 2 (.t 7), none, false⟩, ⟨some 9, .load false 1 (.t 8), none, false⟩, ⟨some 10, .mov (.t 1), none, false⟩, ⟨some 11, .slice 1 (.t 9) none (some (.t 10)) none, none, false⟩, ⟨some 12, .call 55 [.t 11], none, false⟩, ⟨some 5, .mov (.t 12), none, false⟩] 0 [0, 1, 5]) (.seq (.reg [⟨some 13, .mov (.t 0), none, false⟩, ⟨some 14, .mov (.t 0), none, false⟩, ⟨some 15, .nilck (.t 14), none, false⟩, ⟨some 16, .faddr 2 (.t 15), none, false⟩, ⟨some 17, .load false 1 (.t 16), none, false⟩, ⟨some 18, .mov (.t 1), none, false⟩, ⟨some 19, .slice 1 (.t 17) (some (.t 18)) none none, none, false⟩, ⟨some 20, .call 55 [.t 19], none, false⟩, ⟨some 21, .nilck (.t 13), none, false⟩, ⟨some 22, .faddr 2 (.t 21), none, false⟩, ⟨none, .store 1 (.t 22) (.t 20), none, false⟩] 0 [5]) (.seq (.reg [⟨some 23, .mov (.t 5), none, false⟩, ⟨some 4, .mov (.t 23), none, false⟩] 0 [4]) .ret))), [.t 4]⟩
theorem rc_ytake_ok : compFn PG.P [⟨0, 0, [0, 1], []⟩, ⟨1, 0, [0, 1, 5], []⟩, ⟨2, 0, [5], []⟩, ⟨3, 0, [4], []⟩] 44 = some rc_ytake := by kernel_rfl
theorem ytake_K {T : Objs} {o c h n : Nat} {d : DV} {L : List Bd} {S : List Int} {pa : Bool} {sc at' : Int} {K : DV → Objs → Prop} (D : DecAt T o c h d L S pa sc at') (hS : S ≠ []) (hn : n ≤ S.length)
    (hK : ∀ T' d' r, Keep T T' [o] → DecAt T' o c h d' L (S.drop n) pa sc at' → Nw T.length d' → YB r (S.take n) → K r T') : CallK PG 44 [.ptr o 0 0, .int .i64 n] T K := by
  obtain ⟨q, rfl, hq⟩ := D.lf.resolve_right (fun h => hS h.1)
  have hb := D.box
  unfold DecB at hb
  have hl := D.len
  refine CallK.of_fnF FOk.nil rc_ytake_ok (by simp [rc_ytake]) ?_
  unfold rc_ytake
  dsimp only
  have hn0 : (0 : Int) ≤ n := by omega
  simp -implicitDefEqProofs -dsimp only [tb_at, tb_all hb, tb_all hq, hn0, hn, intRows_length, Nat.zero_le, Nat.sub_zero, vcS, ↓vcP1, ↓vcP2, ↓reduceIte, reduceCtorEq, Nat.reduceLT, Nat.reduceLeDiff, Nat.reduceEqDiff, Nat.reduceAdd, Nat.reduceSub, Nat.reduceMul, Int.reduceLT, Int.reduceLE, Int.reduceEq, Int.reduceToNat, Int.reduceAdd, Int.reduceSub, Int.reduceNeg, List.reduceReplicate, Nat.reducePow, Int.reduceMul]
  have hqn : o ≠ q := fun e => by rw [e, hq] at hb; simp at hb
  refine yclone_K hq (by omega) (by omega) fun T1 r1 k1 l1 w1 => ?_
  rw [List.drop_zero] at l1
  have hq1 := k1.at hq (by simp)
  have hb1 := k1.at hb (by simp)
  simp -implicitDefEqProofs -dsimp only [tb_at, tb_all hb1, tb_all hq1, hn0, hn, intRows_length, Nat.zero_le, Nat.sub_zero, vcS, ↓vcP1, ↓vcP2, ↓reduceIte, reduceCtorEq, Nat.reduceLT, Nat.reduceLeDiff, Nat.reduceEqDiff, Nat.reduceAdd, Nat.reduceSub, Nat.reduceMul, Int.reduceLT, Int.reduceLE, Int.reduceEq, Int.reduceToNat, Int.reduceAdd, Int.reduceSub, Int.reduceNeg, List.reduceReplicate, Nat.reducePow, Int.reduceMul]
  refine yclone_K hq1 (by omega) (by omega) fun T2 r2 k2 l2 w2 => ?_
  have hb2 := k2.at hb1 (by simp)
  rw [List.take_of_length_le (by simp)] at l2
  have k02 := k1.trans (k := []) k2 (by simp) (by simp)
  have DD := D.put (pa' := pa) (sc' := sc) (at2 := at') k02 (by simp) l2 (D.inS.drop n) (by simp; omega)
  have k03 : Keep T (T2.set o (some (DecB c h r2 pa sc at'))) [o] := k02.trans (Keep.set1 _ _ _) (by simp) (by simp)
  have nw : Nw T.length r2 := fun q2 off m e => by
    rcases l2 with ⟨q3, e2, _⟩ | ⟨_, e2⟩
    · rw [e2] at e; injection e with e3
      have := w2 q3 (by rw [e2]; simp)
      have := k1.1; omega
    · rw [e2] at e; cases e
  have hr : YB r1 (S.take n) → K r1 (T2.set o (some (DecB c h r2 pa sc at'))) := fun y => hK _ _ _ k03 DD nw y
  obtain ⟨hcl, hone⟩ := l2.one
  simp -implicitDefEqProofs -dsimp only [tb_at, tb_all hb2, hcl, hone, hn0, hn, intRows_length, List.set_cons_succ, List.set_cons_zero, vcS, ↓vcP1, ↓vcP2, ↓reduceIte, reduceCtorEq, Nat.reduceLT, Nat.reduceLeDiff, Nat.reduceEqDiff, Nat.reduceAdd, Nat.reduceSub, Nat.reduceMul, Int.reduceLT, Int.reduceLE, Int.reduceEq, Int.reduceToNat, Int.reduceAdd, Int.reduceSub, Int.reduceNeg, List.reduceReplicate, Nat.reducePow, Int.reduceMul]
  refine ⟨k03.1, ?_⟩
  rcases l1 with ⟨p, rfl, hp⟩ | ⟨e1, rfl⟩
  · have hp2 := k2.at hp (by simp)
    have hpo : p ≠ o := fun e => by rw [e, hb2] at hp2; simp at hp2
    have hp3 := tb_ne hp2 (some (DecB c h r2 pa sc at')) hpo
    have hpT : T.length ≤ p := w1 p (by simp; omega)
    have hpl := tb_lt hp
    refine ⟨_, _, Frzs.own hp3 (by simp [intRows]), ?_⟩
    rw [List.drop_zero, List.take_of_length_le (by simp [intRows])]
    obtain ⟨C, c1, _⟩ := D.cm
    obtain ⟨H, h1, _⟩ := D.hd
    have := tb_lt c1
    have := tb_lt h1
    refine hK _ r2 _ (k03.trans (Keep.set1 _ p none) (by simp) (by simp; omega)) (DD.keep (Keep.set1 _ p none) (by simp; omega) (by simp; omega) (by simp; omega) (fun q2 off m e => ?_)) nw ⟨1, .any, rfl, .inl rfl⟩
    have h5 : T1.length ≤ q2 := by
      rcases l2 with ⟨q3, e2, _⟩ | ⟨_, e2⟩
      · rw [e2] at e; injection e with e3
        have := w2 q3 (by rw [e2]; simp)
        omega
      · rw [e2] at e; cases e
    simp; omega
  · refine ⟨_, _, .refl _, hr ⟨0, .nil, by rw [e1]; rfl, .inr e1⟩⟩
noncomputable def rc_ylong_l0 : RC := (.seq (.seq (.reg [⟨some 13, .mov (.t 3), none, false⟩, ⟨some 14, .bin .gtr (.t 13) (.c (.int .i64 0)), none, false⟩] 0 [0, 3, 14]) (.cond (.t 14) .skip (.ext 0))) (.seq (.blk 1 (.seq (.reg [⟨some 17, .mov (.t 0), none, false⟩, ⟨some 18, .nilck (.t 17), none, false⟩, ⟨some 19, .faddr 2 (.t 18), none, false⟩, ⟨some 20, .load false 1 (.t 19), none, false⟩, ⟨some 21, .mov (.t 3), none, false⟩, ⟨some 22, .slice 1 (.t 20) none (some (.t 21)) none, none, false⟩, ⟨some 23, .conv .b2s (.t 22), none, false⟩, ⟨some 4, .mov (.t 23), none, false⟩] 0 [0, 3, 4]) (.seq (.reg [⟨some 25, .mov (.t 0), none, false⟩, ⟨some 26, .nilck (.t 25), none, false⟩, ⟨some 27, .faddr 0 (.t 26), none, false⟩, ⟨some 28, .load false 1 (.t 27), none, false⟩, ⟨some 29, .mov (.t 4), none, false⟩, ⟨some 30, .mget none true (.str []) (.t 28) (.t 29), none, false⟩, ⟨some 24, .mov (.t 30), none, false⟩, ⟨some 31, .ext (.t 24) 0, none, false⟩, ⟨some 32, .ext (.t 24) 1, none, false⟩, ⟨some 5, .mov (.t 31), none, false⟩, ⟨some 6, .mov (.t 32), none, false⟩] 0 [0, 3, 4, 6]) (.seq (.reg [⟨some 33, .mov (.t 6), none, false⟩, ⟨some 34, .mov (.t 33), none, false⟩, ⟨some 35, .mov (.t 4), some (34, false), false⟩, ⟨some 36, .bin .eql (.t 35) (.c (.str [(27), (91), (50), (48), (48), (126)])), some (34, false), false⟩, ⟨some 37, .pick (.t 34) (.c (.bool true)) (.t 36), none, false⟩] 0 [0, 3, 37]) (.cond (.t 37) (.seq (.reg [⟨some 38, .mov (.t 3), none, false⟩, ⟨some 2, .mov (.t 38), none, false⟩] 0 [2]) .ret) .skip))))) (.reg [⟨some 15, .mov (.t 3), none, false⟩, ⟨some 16, .bin .sub (.t 15) (.c (.int .i64 1)), none, false⟩, ⟨some 3, .mov (.t 16), none, false⟩] 0 [0, 3])))
noncomputable def rc_ylong : RFn := ⟨1, 39, .seq (.reg [⟨some 2, .mov (.c (.int .i64 0)), none, false⟩] 0 [0]) (.seq (.seq (.reg [⟨some 7, .mov (.t 0), none, false⟩, ⟨some 8, .nilck (.t 7), none, false⟩, ⟨some 9, .faddr 2 (.t 8), none, false⟩, ⟨some 10, .load false 1 (.t 9), none, false⟩, ⟨some 11, .len (.t 10), none, false⟩, ⟨some 12, .mm false (.t 11) (.c (.int .i64 8)), none, false⟩, ⟨some 3, .mov (.t 12), none, false⟩] 0 [0, 3]) (.blk 0 (.loop rc_ylong_l0))) (.seq (.reg [⟨some 2, .mov (.c (.int .i64 0)), none, false⟩] 0 [2]) .ret)), [.t 2]⟩
theorem rc_ylong_ok : compFn PG.P [⟨0, 0, [0], []⟩, ⟨1, 0, [0, 3], []⟩, ⟨2, 0, [0, 3, 14], []⟩, ⟨3, 0, [0, 3], []⟩, ⟨4, 0, [0, 3, 4], []⟩, ⟨5, 0, [0, 3, 4, 6], []⟩, ⟨6, 0, [0, 3, 37], []⟩, ⟨7, 0, [2], []⟩, ⟨8, 0, [2], []⟩] 42 = some rc_ylong := by kernel_rfl
def longN (L : List Bd) (S : List Int) : Nat → Nat
  | 0 => 0
  | n + 1 => if (findB L (S.take (n + 1))).isSome = true ∨ S.take (n + 1) = beginL then n + 1 else longN L S n
theorem toB_beginL : toB beginL = [27, 91, 50, 48, 48, 126] := rfl
theorem ylong_K {T : Objs} {o c h : Nat} {d : DV} {L : List Bd} {S : List Int} {pa : Bool} {sc at' : Int} {K : DV → Objs → Prop} (D : DecAt T o c h d L S pa sc at') (hS : S ≠ [])
    (hK : K (.int .i64 (longN L S (min S.length 8))) T) : CallK PG 42 [.ptr o 0 0] T K := by
  obtain ⟨q, rfl, hq⟩ := D.lf.resolve_right (fun h => hS h.1)
  have hb := D.box
  unfold DecB at hb
  have hl := D.len
  obtain ⟨C, hC, hCo⟩ := D.cm
  refine CallK.of_fn FOk.nil rc_ylong_ok (by simp [rc_ylong]) ?_
  unfold rc_ylong
  dsimp only
  have hmin : min (S.length : Int) 8 = ((min S.length 8 : Nat) : Int) := by omega
  simp -implicitDefEqProofs -dsimp only [tb_at, tb_all hb, tb_all hq, intRows_length, vcS, ↓vcP1, ↓vcP2, ↓reduceIte, reduceCtorEq, Nat.reduceLT, Nat.reduceLeDiff, Nat.reduceEqDiff, Nat.reduceAdd, Nat.reduceSub, Nat.reduceMul, Int.reduceLT, Int.reduceLE, Int.reduceEq, Int.reduceToNat, Int.reduceAdd, Int.reduceSub, Int.reduceNeg, List.reduceReplicate, Nat.reducePow, Int.reduceMul]
  rw [hmin]
  refine LoopWp.inv FOk.nil (S := fun i : Nat => ⟨[(0, .ptr o 0 0), (3, .int .i64 i)], T⟩) (I := fun i => i ≤ min S.length 8 ∧ longN L S i = longN L S (min S.length 8)) (μ := fun i => i) (min S.length 8) ⟨Nat.le_refl _, rfl⟩ ?_ ?_
  · simp -implicitDefEqProofs -dsimp only [vcS, ↓vcP1, ↓vcP2, ↓reduceIte, reduceCtorEq, Nat.reduceLT, Nat.reduceLeDiff, Nat.reduceEqDiff, Nat.reduceAdd, Nat.reduceSub, Nat.reduceMul, Int.reduceLT, Int.reduceLE, Int.reduceEq, Int.reduceToNat, Int.reduceAdd, Int.reduceSub, Int.reduceNeg, List.reduceReplicate, Nat.reducePow, Int.reduceMul]
  · intro i ⟨i1, i2⟩
    unfold rc_ylong_l0
    cases i with
    | zero =>
      simp -implicitDefEqProofs -dsimp only [tb_at, tb_all hb, tb_all hq, intRows_length, vcS, ↓vcP1, ↓vcP2, ↓reduceIte, reduceCtorEq, Nat.reduceLT, Nat.reduceLeDiff, Nat.reduceEqDiff, Nat.reduceAdd, Nat.reduceSub, Nat.reduceMul, Int.reduceLT, Int.reduceLE, Int.reduceEq, Int.reduceToNat, Int.reduceAdd, Int.reduceSub, Int.reduceNeg, List.reduceReplicate, Nat.reducePow, Int.reduceMul]
      rw [← i2] at hK
      exact hK
    | succ i =>
      have hi0 : (0 : Int) < ((i + 1 : Nat) : Int) := by omega
      have hi1 : (0 : Int) ≤ ((i + 1 : Nat) : Int) := by omega
      have hi2 : i + 1 ≤ S.length := by omega
      have hw : IntKind.i64.wrap (((i + 1 : Nat) : Int) - 1) = (i : Int) := by rw [wI64 (by omega) (by omega)]; omega
      have ht : (intRows .u8 S).take (i + 1) = intRows .u8 (S.take (i + 1)) := by simp [intRows]
      have hin := D.inS.take (i + 1)
      have hm : mgetR T none true (.str []) (.mp c) (.str (List.map (fun n => UInt8.ofNat n.toNat) (S.take (i + 1)))) = some (.tup [((findB L (S.take (i + 1))).map fun b => DV.str b.cmd).getD (.str []), .bool (findB L (S.take (i + 1))).isSome]) := by
        rw [mgetR_str hC (mfind_strE _ _), mgetV_ok]
        have := hCo _ hin
        unfold toB at this
        rw [this]
        simp
      simp -implicitDefEqProofs -dsimp only [tb_at, tb_all hb, tb_all hq, intRows_length, hi0, hi1, hi2, hw, ht, hm, Nat.sub_zero, vcS, ↓vcP1, ↓vcP2, ↓reduceIte, reduceCtorEq, Nat.reduceLT, Nat.reduceLeDiff, Nat.reduceEqDiff, Nat.reduceAdd, Nat.reduceSub, Nat.reduceMul, Int.reduceLT, Int.reduceLE, Int.reduceEq, Int.reduceToNat, Int.reduceAdd, Int.reduceSub, Int.reduceNeg, List.reduceReplicate, Nat.reducePow, Int.reduceMul, vcM]
      have hbeg : (List.map (fun n => UInt8.ofNat n.toNat) (S.take (i + 1)) == [27, 91, 50, 48, 48, 126]) = decide (S.take (i + 1) = beginL) := by
        have := toB_inj (a := S.take (i + 1)) (b := beginL) (fun n hn => hin.u8 hn) (by simp [beginL])
        rw [toB_beginL] at this
        by_cases e : S.take (i + 1) = beginL
        · rw [decide_eq_true e, e]; rfl
        · rw [decide_eq_false e]; simpa [toB] using mt this.1 e
      simp only [longN] at i2
      cases hf : findB L (S.take (i + 1)) with
      | some b =>
        rw [if_pos (.inl (by rw [hf]; rfl))] at i2
        simp -implicitDefEqProofs -dsimp only [Option.isSome_some, Option.map_some, Option.getD_some, vcS, ↓vcP1, ↓vcP2, ↓reduceIte, reduceCtorEq, Nat.reduceLT, Nat.reduceLeDiff, Nat.reduceEqDiff, Nat.reduceAdd, Nat.reduceSub, Nat.reduceMul, Int.reduceLT, Int.reduceLE, Int.reduceEq, Int.reduceToNat, Int.reduceAdd, Int.reduceSub, Int.reduceNeg, List.reduceReplicate, Nat.reducePow, Int.reduceMul]
        rw [← i2] at hK
        exact hK
      | none =>
        simp -implicitDefEqProofs -dsimp only [Option.isSome_none, Option.map_none, Option.getD_none, hbeg, vcS, ↓vcP1, ↓vcP2, ↓reduceIte, reduceCtorEq, Nat.reduceLT, Nat.reduceLeDiff, Nat.reduceEqDiff, Nat.reduceAdd, Nat.reduceSub, Nat.reduceMul, Int.reduceLT, Int.reduceLE, Int.reduceEq, Int.reduceToNat, Int.reduceAdd, Int.reduceSub, Int.reduceNeg, List.reduceReplicate, Nat.reducePow, Int.reduceMul]
        by_cases e : S.take (i + 1) = beginL
        · rw [if_pos (.inr e)] at i2
          rw [← i2] at hK
          exact ⟨fun _ => hK, fun h => absurd e h⟩
        · rw [if_neg (by rw [hf]; simp [e])] at i2
          exact ⟨fun h => absurd h e, fun _ => ⟨i, rfl, ⟨by omega, i2⟩, by omega⟩⟩
noncomputable def rc_ywide_l0 : RC := (.seq (.reg [⟨some 17, .bin .lss (.t 16) (.t 15), none, false⟩] 0 [0, 1, 4, 6, 14, 15, 16, 17]) (.seq (.cond (.t 17) .skip (.ext 0)) (.seq (.blk 1 (.seq (.reg [⟨some 18, .mov (.t 16), none, false⟩, ⟨some 19, .iaddr 1 (.t 14) (.t 16), none, false⟩, ⟨some 20, .load false 1 (.t 19), none, false⟩, ⟨some 7, .mov (.t 18), none, false⟩, ⟨some 8, .mov (.t 20), none, false⟩] 0 [0, 1, 4, 6, 7, 8, 14, 15, 16]) (.seq (.reg [⟨some 22, .mov (.t 6), none, false⟩, ⟨some 23, .mov (.t 8), none, false⟩, ⟨some 24, .call 66 [.t 22, .t 23], none, false⟩, ⟨some 21, .mov (.t 24), none, false⟩, ⟨some 25, .ext (.t 21) 0, none, false⟩, ⟨some 26, .ext (.t 21) 1, none, false⟩, ⟨some 9, .mov (.t 25), none, false⟩, ⟨some 10, .mov (.t 26), none, false⟩] 0 [0, 1, 4, 6, 7, 9, 10, 14, 15, 16]) (.seq (.blk 2 (.seq (.reg [⟨some 28, .mov (.t 10), none, false⟩, ⟨some 29, .len (.t 28), none, false⟩, ⟨some 30, .bin .eql (.t 29) (.c (.int .i64 1)), none, false⟩, ⟨some 31, .mov (.t 30), none, false⟩, ⟨some 32, .mov (.t 9), some (31, true), false⟩, ⟨some 33, .len (.t 32), some (31, true), false⟩, ⟨some 34, .bin .eql (.t 33) (.c (.int .i64 0)), some (31, true), false⟩, ⟨some 35, .pick (.t 31) (.t 34) (.c (.bool false)), none, false⟩, ⟨some 27, .mov (.t 35), none, false⟩] 0 [0, 1, 4, 6, 7, 9, 10, 14, 15, 16, 27]) (.cond (.t 27) (.seq (.reg [⟨some 36, .mov (.t 0), none, false⟩, ⟨some 37, .mov (.t 7), none, false⟩, ⟨some 38, .bin .add (.t 37) (.c (.int .i64 1)), none, false⟩, ⟨some 39, .call 44 [.t 36, .t 38], none, false⟩] 0 [4, 10]) (.seq (.reg [⟨some 40, .mov (.t 10), none, false⟩, ⟨some 41, .iaddr 1 (.t 40) (.c (.int .i64 0)), none, false⟩, ⟨some 42, .load false 1 (.t 41), none, false⟩, ⟨some 43, .build [.int .i64 0, .str [], .sl 0 [] .nil, .int .i32 0, .sl 0 [] .nil] [(0, (1, (.c (.int .i64 1)))), (3, (1, (.t 42)))], none, false⟩, ⟨none, .store 5 (.t 4) (.t 43), none, false⟩, ⟨some 5, .mov (.c (.bool true)), none, false⟩] 0 [4, 5]) .ret)) (.seq (.reg [⟨some 45, .mov (.t 10), none, false⟩, ⟨some 46, .len (.t 45), none, false⟩, ⟨some 47, .bin .gtr (.t 46) (.c (.int .i64 0)), none, false⟩, ⟨some 44, .mov (.t 47), none, false⟩] 0 [0, 1, 4, 6, 9, 14, 15, 16, 44]) (.cond (.t 44) (.seq (.reg [⟨some 48, .mov (.t 0), none, false⟩, ⟨some 49, .mov (.t 6), none, false⟩, ⟨some 50, .len (.t 49), none, false⟩, ⟨some 51, .call 44 [.t 48, .t 50], none, false⟩] 0 [4]) (.seq (.reg [⟨some 52, .build [.int .i64 0, .str [], .sl 0 [] .nil, .int .i32 0, .sl 0 [] .nil] [(0, (1, (.c (.int .i64 1)))), (3, (1, (.c (.int .i32 65533))))], none, false⟩, ⟨none, .store 5 (.t 4) (.t 52), none, false⟩, ⟨some 5, .mov (.c (.bool true)), none, false⟩] 0 [4, 5]) .ret)) .skip))))) (.reg [⟨some 53, .mov (.t 9), none, false⟩, ⟨some 6, .mov (.t 53), none, false⟩] 0 [0, 1, 4, 6, 14, 15, 16]))))) (.reg [⟨some 54, .bin .add (.t 16) (.c (.int .i64 1)), none, false⟩, ⟨some 16, .mov (.t 54), none, false⟩] 0 [0, 1, 4, 6, 14, 15, 16]))))
noncomputable def rc_ywide : RFn := ⟨2, 66, .seq (.reg [⟨some 4, .alloc [.int .i64 0, .str [], .sl 0 [] .nil, .int .i32 0, .sl 0 [] .nil], none, false⟩, ⟨some 5, .mov (.c (.bool false)), none, false⟩] 0 [0, 1, 4]) (.seq (.reg [⟨some 6, .mov (.c (.sl 0 [] .nil)), none, false⟩] 0 [0, 1, 4, 6]) (.seq (.seq (.reg [⟨some 11, .mov (.t 0), none, false⟩, ⟨some 12, .nilck (.t 11), none, false⟩, ⟨some 13, .faddr 2 (.t 12), none, false⟩, ⟨some 14, .load false 1 (.t 13), none, false⟩, ⟨some 15, .len (.t 14), none, false⟩, ⟨some 16, .mov (.c (.int .i64 0)), none, false⟩] 0 [0, 1, 4, 6, 14, 15, 16]) (.blk 0 (.loop rc_ywide_l0))) (.seq (.seq (.reg [⟨some 55, .mov (.t 1), none, false⟩, ⟨some 56, .un .not (.t 55), none, false⟩] 0 [0, 4, 56]) (.cond (.t 56) (.seq (.reg [⟨some 57, .build [.int .i64 0, .str [], .sl 0 [] .nil, .int .i32 0, .sl 0 [] .nil] [], none, false⟩, ⟨none, .store 5 (.t 4) (.t 57), none, false⟩, ⟨some 5, .mov (.c (.bool false)), none, false⟩] 0 [4, 5]) .ret) .skip)) (.seq (.reg [⟨some 58, .mov (.t 0), none, false⟩, ⟨some 59, .mov (.t 0), none, false⟩, ⟨some 60, .nilck (.t 59), none, false⟩, ⟨some 61, .faddr 2 (.t 60), none, false⟩, ⟨some 62, .load false 1 (.t 61), none, false⟩, ⟨some 63, .len (.t 62), none, false⟩, ⟨some 64, .call 44 [.t 58, .t 63], none, false⟩] 0 [4]) (.seq (.reg [⟨some 65, .build [.int .i64 0, .str [], .sl 0 [] .nil, .int .i32 0, .sl 0 [] .nil] [(0, (1, (.c (.int .i64 1)))), (3, (1, (.c (.int .i32 65533))))], none, false⟩, ⟨none, .store 5 (.t 4) (.t 65), none, false⟩, ⟨some 5, .mov (.c (.bool true)), none, false⟩] 0 [4, 5]) .ret))))), [.c 4 true 5, .t 5]⟩
theorem rc_ywide_ok : compFn PG.P [⟨0, 0, [0, 1, 4], []⟩, ⟨1, 0, [0, 1, 4, 6], []⟩, ⟨2, 0, [0, 1, 4, 6, 14, 15, 16], []⟩, ⟨3, 0, [0, 1, 4, 6, 14, 15, 16, 17], []⟩, ⟨4, 0, [0, 1, 4, 6, 7, 8, 14, 15, 16], []⟩, ⟨5, 0, [0, 1, 4, 6, 7, 9, 10, 14, 15, 16], []⟩, ⟨6, 0, [0, 1, 4, 6, 7, 9, 10, 14, 15, 16, 27], []⟩, ⟨7, 0, [4, 10], []⟩, ⟨8, 0, [4, 5], []⟩, ⟨9, 0, [0, 1, 4, 6, 9, 14, 15, 16, 44], []⟩, ⟨10, 0, [4], []⟩, ⟨11, 0, [4, 5], []⟩, ⟨12, 0, [0, 1, 4, 6, 14, 15, 16], []⟩, ⟨13, 0, [0, 1, 4, 6, 14, 15, 16], []⟩, ⟨14, 0, [0, 4, 56], []⟩, ⟨15, 0, [4, 5], []⟩, ⟨16, 0, [4], []⟩, ⟨17, 0, [4, 5], []⟩] 54 = some rc_ywide := by kernel_rfl
structure Ky where
  kind : Int
  cmd : List UInt8
  seq : List Int
  r : Int
  text : List Int
  deriving DecidableEq, Inhabited
def kyZ : Ky := ⟨0, [], [], 0, []⟩
def kyR (r : Int) : Ky := ⟨1, [], [], r, []⟩
def RB (v : DV) (l : List Int) : Prop := ∃ sz k, v = .sl sz (intRows .i32 l) k ∧ (sz = 1 ∨ l = [])
def KV (v : DV) (k : Ky) : Prop := ∃ ds dt, v = .agg [.int .i64 k.kind, .str k.cmd, ds, .int .i32 k.r, dt] ∧ YB ds k.seq ∧ RB dt k.text
def kyB (k : Int) (c : List UInt8) (ds : DV) (r : Int) : Ob := .box [.int .i64 k, .str c, ds, .int .i32 r, .sl 0 [] .nil]
def Nwd (n : Nat) (d d' : DV) : Prop := ∀ q off m, d' = .own q off m → n ≤ q ∨ d' = d
theorem YB_nil : YB (.sl 0 [] .nil) [] := ⟨0, .nil, rfl, .inr rfl⟩
theorem RB_nil : RB (.sl 0 [] .nil) [] := ⟨0, .nil, rfl, .inr rfl⟩
theorem KV_z : KV (.agg [.int .i64 0, .str [], .sl 0 [] .nil, .int .i32 0, .sl 0 [] .nil]) kyZ := ⟨_, _, rfl, YB_nil, RB_nil⟩
theorem KV_r (r : Int) : KV (.agg [.int .i64 1, .str [], .sl 0 [] .nil, .int .i32 r, .sl 0 [] .nil]) (kyR r) := ⟨_, _, rfl, YB_nil, RB_nil⟩
def wideL (late : Bool) : List Int → List Int → Nat → Option (Int × Nat)
  | [], _, i => if late = true then some (65533, i) else none
  | c :: cs, p, i => if (ustep p c).2.length = 1 ∧ (ustep p c).1 = [] then some ((ustep p c).2.headD 0, i + 1) else if (ustep p c).2 ≠ [] then some (65533, p.length) else wideL late cs (ustep p c).1 (i + 1)
theorem getD_mem {l : List Int} {i : Nat} (h : i < l.length) : l.getD i 0 ∈ l := by
  rw [List.getD_eq_getElem?_getD, List.getElem?_eq_getElem h]
  exact List.getElem_mem _
theorem wide_cases {late : Bool} {S p : List Int} {i : Nat} {w : Option (Int × Nat)} (hc : i < S.length) (h : wideL late (S.drop i) p i = w) :
    ∃ u1 u2, ustep p (S.getD i 0) = (u1, u2) ∧ ((∃ r, u2 = [r] ∧ u1 = [] ∧ some (r, i + 1) = w) ∨ (∃ r a t, u2 = [r] ∧ u1 = a :: t ∧ some (65533, p.length) = w) ∨ (∃ r1 r2 t, u2 = r1 :: r2 :: t ∧ some (65533, p.length) = w) ∨ (u2 = [] ∧ wideL late (S.drop (i + 1)) u1 (i + 1) = w)) := by
  rw [List.drop_eq_getElem_cons hc] at h
  have he : S[i] = S.getD i 0 := by rw [List.getD_eq_getElem?_getD, List.getElem?_eq_getElem hc]; rfl
  rw [he, wideL] at h
  cases hu : ustep p (S.getD i 0) with
  | mk u1 u2 =>
    rw [hu] at h
    refine ⟨u1, u2, rfl, ?_⟩
    dsimp only at h
    match u2, u1 with
    | [], u1 => exact .inr (.inr (.inr ⟨rfl, by simpa using h⟩))
    | [r], [] => exact .inl ⟨r, rfl, rfl, by simpa using h⟩
    | [r], a :: t => exact .inr (.inl ⟨r, a, t, rfl, rfl, by simpa using h⟩)
    | r1 :: r2 :: t, u1 => exact .inr (.inr (.inl ⟨r1, r2, t, rfl, by simpa using h⟩))
def wk : Option (Int × Nat) → Ky
  | none => kyZ
  | some x => kyR x.1
def wn : Option (Int × Nat) → Nat
  | none => 0
  | some x => x.2
theorem Nw.wd {n : Nat} {d d' : DV} (h : Nw n d') : Nwd n d d' := fun q off m e => .inl (h q off m e)
theorem DecAt.fin {T T2 : Objs} {o c h : Nat} {d d' : DV} {L : List Bd} {S S' : List Int} {pa pa' : Bool} {sc at' sc' at2 : Int} {bx : Option Ob} (D : DecAt T o c h d L S pa sc at') (k : Keep (T ++ [bx]) T2 [o]) (D2 : DecAt T2 o c h d' L S' pa' sc' at2) (nw : Nwd (T ++ [bx]).length d d') (x : Option Ob) :
    Keep T (T2.set T.length x) [o] ∧ DecAt (T2.set T.length x) o c h d' L S' pa' sc' at2 ∧ Nwd T.length d d' := by
  have ho := tb_lt D.box
  obtain ⟨C, c1, _⟩ := D.cm
  obtain ⟨H, h1, _⟩ := D.hd
  have hc := tb_lt c1
  have hh := tb_lt h1
  have hd : ∀ q off m, d = .own q off m → q < T.length := fun q off m e => by
    rcases D.lf with ⟨q2, e2, h2⟩ | ⟨_, e2⟩
    · rw [e2] at e; injection e with e3; have := tb_lt h2; omega
    · rw [e2] at e; cases e
  have k1 : Keep T T2 [o] := (Keep.app T [bx] [o]).trans k (by simp) (by simp)
  refine ⟨k1.trans (Keep.set1 _ _ _) (by simp) (by simp), D2.keep (Keep.set1 _ _ _) (by simp; omega) (by simp; omega) (by simp; omega) (fun q off m e => ?_), fun q off m e => ?_⟩
  · rcases nw q off m e with h | h
    · simp at h ⊢; omega
    · have := hd q off m (by rw [← h, e])
      simp; omega
  · rcases nw q off m e with h | h
    · simp at h; exact .inl (by omega)
    · exact .inr h
theorem DecAt.fin0 {T : Objs} {o c h : Nat} {d : DV} {L : List Bd} {S : List Int} {pa : Bool} {sc at' : Int} (D : DecAt T o c h d L S pa sc at') (l : Objs) :
    Keep T (T ++ l) [o] ∧ DecAt (T ++ l) o c h d L S pa sc at' ∧ Nwd T.length d d := 
  ⟨Keep.app _ _ _, D.keep (Keep.app T l []) (by simp) (by simp) (by simp) (by simp), fun _ _ _ _ => .inr rfl⟩
theorem ustep_grow {p : List Int} {b : Int} (hb : 0 ≤ b ∧ b ≤ 255) : (ustep p b).1.length ≤ p.length + 1 := by
  rw [ustep_eq hb]
  have h1 : (one b).1.length ≤ 1 := by unfold one; split <;> (try split) <;> simp
  split
  · omega
  · split
    · simp
    · split
      · simp
      · dsimp only; omega
theorem ywide_K {T : Objs} {o c h : Nat} {d : DV} {L : List Bd} {S : List Int} {pa late : Bool} {sc at' : Int} {K : DV → Objs → Prop} (D : DecAt T o c h d L S pa sc at') (hS : S ≠ [])
    (hK : ∀ T' d' v, Keep T T' [o] → DecAt T' o c h d' L (S.drop (wn (wideL late S [] 0))) pa sc at' → Nwd T.length d d' → KV v (wk (wideL late S [] 0)) → K (.tup [v, .bool (wideL late S [] 0).isSome]) T') :
    CallK PG 54 [.ptr o 0 0, .bool late] T K := by
  obtain ⟨q, rfl, hq⟩ := D.lf.resolve_right (fun h => hS h.1)
  have hb := D.box
  unfold DecB at hb
  have hl := D.len
  refine CallK.of_fn FOk.nil rc_ywide_ok (by simp [rc_ywide]) ?_
  unfold rc_ywide
  dsimp only
  simp -implicitDefEqProofs -dsimp only [tb_at, tb_all hb, tb_all hq, intRows_length, vcS, ↓vcP1, ↓vcP2, ↓reduceIte, reduceCtorEq, Nat.reduceLT, Nat.reduceLeDiff, Nat.reduceEqDiff, Nat.reduceAdd, Nat.reduceSub, Nat.reduceMul, Int.reduceLT, Int.reduceLE, Int.reduceEq, Int.reduceToNat, Int.reduceAdd, Int.reduceSub, Int.reduceNeg, List.reduceReplicate, Nat.reducePow, Int.reduceMul]
  generalize hT1 : T ++ [some (Ob.box [.int .i64 0, .str [], .sl 0 [] .nil, .int .i32 0, .sl 0 [] .nil])] = T1
  have hk1 : T1[T.length]? = some (some (Ob.box [.int .i64 0, .str [], .sl 0 [] .nil, .int .i32 0, .sl 0 [] .nil])) := by rw [← hT1]; exact tb_get0 _ _ _
  have hq1 : T1[q]? = some (some (.arr 1 (intRows .u8 S))) := by rw [← hT1]; exact tb_f hq _
  have hb1 : T1[o]? = some (some (.box [.mp c, .mp h, .own q 0 S.length, .bool pa, .int .i64 sc, .int .i64 at'])) := by rw [← hT1]; exact tb_f hb _
  have D1 : DecAt T1 o c h (.own q 0 S.length) L S pa sc at' := by rw [← hT1]; exact (D.fin0 _).2.1
  have hlen1 : T1.length = T.length + 1 := by rw [← hT1]; simp
  refine LoopWp.inv FOk.nil (S := fun s : Nat × Nat × SK × List Int => ⟨[(0, .ptr o 0 0), (1, .bool late), (4, .ptr T.length 0 0), (6, .sl s.2.1 (intRows .u8 s.2.2.2) s.2.2.1), (14, .own q 0 S.length), (15, .int .i64 S.length), (16, .int .i64 s.1)], T1⟩)
    (I := fun s => s.1 ≤ S.length ∧ (s.2.1 = 1 ∨ s.2.2.2 = []) ∧ inK .u8 s.2.2.2 ∧ s.2.2.2.length ≤ s.1 ∧ wideL late (S.drop s.1) s.2.2.2 s.1 = wideL late S [] 0)
    (μ := fun s => S.length - s.1) (0, 0, .nil, []) ⟨by simp, .inr rfl, inK_nil _, by simp, rfl⟩ ?_ ?_
  · simp -implicitDefEqProofs -dsimp only [intRows_nil, vcS, ↓vcP1, ↓vcP2, ↓reduceIte, reduceCtorEq, Nat.reduceLT, Nat.reduceLeDiff, Nat.reduceEqDiff, Nat.reduceAdd, Nat.reduceSub, Nat.reduceMul, Int.reduceLT, Int.reduceLE, Int.reduceEq, Int.reduceToNat, Int.reduceAdd, Int.reduceSub, Int.reduceNeg, List.reduceReplicate, Nat.reducePow, Int.reduceMul]
  · intro ⟨i, sz, k, p⟩ ⟨i1, i2, i3, i4, i5⟩
    dsimp only at i1 i2 i3 i4 i5 ⊢
    have hcs : ¬ i < S.length ∨ i < S.length ∧ ∃ u1 u2, ustep p (S.getD i 0) = (u1, u2) ∧ inK .u8 u1 ∧ u1.length ≤ i + 1 ∧
        ((∃ r, u2 = [r] ∧ u1 = [] ∧ some (r, i + 1) = wideL late S [] 0) ∨ (∃ r a t, u2 = [r] ∧ u1 = a :: t ∧ some (65533, p.length) = wideL late S [] 0) ∨ (∃ r1 r2 t, u2 = r1 :: r2 :: t ∧ some (65533, p.length) = wideL late S [] 0) ∨ (u2 = [] ∧ wideL late (S.drop (i + 1)) u1 (i + 1) = wideL late S [] 0)) := by
      by_cases hc : i < S.length
      · obtain ⟨u1, u2, hu, h⟩ := wide_cases hc i5
        have e1 : u1 = (ustep p (S.getD i 0)).1 := by rw [hu]
        have h1 := ustep_in i3 (D.inS.u8 (getD_mem hc)) (by omega)
        have h2 := ustep_grow (p := p) (D.inS.u8 (getD_mem hc))
        rw [← e1] at h1 h2
        exact .inr ⟨hc, u1, u2, hu, h1, by omega, h⟩
      · exact .inl hc
    have pos : i < S.length → ((i : Int) < S.length) ∧ (0 : Int) ≤ i ∧ 0 ≤ S.getD i 0 ∧ S.getD i 0 ≤ 255 := fun hc => ⟨by omega, by omega, (D.inS.u8 (getD_mem hc)).1, (D.inS.u8 (getD_mem hc)).2⟩
    rcases hcs with hc | ⟨hc, u1, u2, hu, hui, hul, hcs⟩
    rotate_left
    · obtain ⟨hc', hc0, hby1, hby2⟩ := pos hc
      have hw : IntKind.i64.wrap ((i : Int) + 1) = ((i + 1 : Nat) : Int) := by rw [wI64 (by omega) (by omega)]; omega
      rcases hcs with ⟨r, rfl, rfl, h5⟩ | ⟨r, a, t, rfl, rfl, h5⟩ | ⟨r1, r2, t, rfl, h5⟩ | ⟨rfl, h5⟩
      · rw [← h5] at hK
        unfold rc_ywide_l0
        simp -implicitDefEqProofs -dsimp only [tb_at, tb_all hk1, tb_all hb1, tb_all hq1, hc', hc0, hw, intRows_length, Nat.zero_add, vcS, ↓vcP1, ↓vcP2, ↓reduceIte, reduceCtorEq, Nat.reduceLT, Nat.reduceLeDiff, Nat.reduceEqDiff, Nat.reduceAdd, Nat.reduceSub, Nat.reduceMul, Int.reduceLT, Int.reduceLE, Int.reduceEq, Int.reduceToNat, Int.reduceAdd, Int.reduceSub, Int.reduceNeg, List.reduceReplicate, Nat.reducePow, Int.reduceMul]
        refine ⟨hc, CallK.pure (step_any i2 i3 (by omega) ⟨hby1, hby2⟩) fun r os ⟨e1, e2⟩ => ?_⟩
        subst e1; subst e2
        rw [hu]
        simp -implicitDefEqProofs -dsimp only [tb_at, tb_all hk1, tb_all hb1, tb_all hq1, hw, intRows_length, intRows_nil, List.length_cons, List.length_nil, Nat.zero_add, List.append_nil, vcS, ↓vcP1, ↓vcP2, ↓reduceIte, reduceCtorEq, Nat.reduceLT, Nat.reduceLeDiff, Nat.reduceEqDiff, Nat.reduceAdd, Nat.reduceSub, Nat.reduceMul, Int.reduceLT, Int.reduceLE, Int.reduceEq, Int.reduceToNat, Int.reduceAdd, Int.reduceSub, Int.reduceNeg, List.reduceReplicate, Nat.reducePow, Int.reduceMul]
        refine ytake_K D1 hS (n := i + 1) (by omega) fun T2 d2 r2 k2 D2 n2 y2 => ?_
        have hk2 := k2.at hk1 (by have := tb_lt hb; simp; omega)
        have hr1 : (intRows .i32 [r])[0]? = some [.int .i32 r] := rfl
        simp -implicitDefEqProofs -dsimp only [tb_at, tb_all hk2, hr1, vcS, ↓vcP1, ↓vcP2, ↓reduceIte, reduceCtorEq, Nat.reduceLT, Nat.reduceLeDiff, Nat.reduceEqDiff, Nat.reduceAdd, Nat.reduceSub, Nat.reduceMul, Int.reduceLT, Int.reduceLE, Int.reduceEq, Int.reduceToNat, Int.reduceAdd, Int.reduceSub, Int.reduceNeg, List.reduceReplicate, Nat.reducePow, Int.reduceMul]
        have k2' := k2
        have n2' := n2
        rw [← hT1] at k2' n2'
        obtain ⟨a1, a2, a3⟩ := D.fin k2' D2 n2'.wd (some (kyB 1 [] (.sl 0 [] .nil) r))
        refine ⟨a1.1, hK _ _ _ a1 a2 a3 (KV_r _)⟩
      · rw [← h5] at hK
        have hx : ¬ (((t.length + 1 : Nat) : Int) = 0) := by omega
        unfold rc_ywide_l0
        simp -implicitDefEqProofs -dsimp only [tb_at, tb_all hk1, tb_all hb1, tb_all hq1, hc', hc0, hw, intRows_length, Nat.zero_add, vcS, ↓vcP1, ↓vcP2, ↓reduceIte, reduceCtorEq, Nat.reduceLT, Nat.reduceLeDiff, Nat.reduceEqDiff, Nat.reduceAdd, Nat.reduceSub, Nat.reduceMul, Int.reduceLT, Int.reduceLE, Int.reduceEq, Int.reduceToNat, Int.reduceAdd, Int.reduceSub, Int.reduceNeg, List.reduceReplicate, Nat.reducePow, Int.reduceMul]
        refine ⟨hc, CallK.pure (step_any i2 i3 (by omega) ⟨hby1, hby2⟩) fun r os ⟨e1, e2⟩ => ?_⟩
        subst e1; subst e2
        rw [hu]
        simp -implicitDefEqProofs -dsimp only [tb_at, tb_all hk1, tb_all hb1, tb_all hq1, hw, hx, intRows_length, intRows_nil, List.length_cons, List.length_nil, Nat.zero_add, List.append_nil, vcS, ↓vcP1, ↓vcP2, ↓reduceIte, reduceCtorEq, Nat.reduceLT, Nat.reduceLeDiff, Nat.reduceEqDiff, Nat.reduceAdd, Nat.reduceSub, Nat.reduceMul, Int.reduceLT, Int.reduceLE, Int.reduceEq, Int.reduceToNat, Int.reduceAdd, Int.reduceSub, Int.reduceNeg, List.reduceReplicate, Nat.reducePow, Int.reduceMul]
        refine ytake_K D1 hS (n := p.length) (by omega) fun T2 d2 r2 k2 D2 n2 y2 => ?_
        have hk2 := k2.at hk1 (by have := tb_lt hb; simp; omega)
        simp -implicitDefEqProofs -dsimp only [tb_at, tb_all hk2, vcS, ↓vcP1, ↓vcP2, ↓reduceIte, reduceCtorEq, Nat.reduceLT, Nat.reduceLeDiff, Nat.reduceEqDiff, Nat.reduceAdd, Nat.reduceSub, Nat.reduceMul, Int.reduceLT, Int.reduceLE, Int.reduceEq, Int.reduceToNat, Int.reduceAdd, Int.reduceSub, Int.reduceNeg, List.reduceReplicate, Nat.reducePow, Int.reduceMul]
        have k2' := k2
        have n2' := n2
        rw [← hT1] at k2' n2'
        obtain ⟨a1, a2, a3⟩ := D.fin k2' D2 n2'.wd (some (kyB 1 [] (.sl 0 [] .nil) 65533))
        refine ⟨a1.1, hK _ _ _ a1 a2 a3 (KV_r _)⟩
      · rw [← h5] at hK
        have hx : ¬ (((t.length + 1 + 1 : Nat) : Int) = 1) := by omega
        have hy : (0 : Int) < ((t.length + 1 + 1 : Nat) : Int) := by omega
        unfold rc_ywide_l0
        simp -implicitDefEqProofs -dsimp only [tb_at, tb_all hk1, tb_all hb1, tb_all hq1, hc', hc0, hw, intRows_length, Nat.zero_add, vcS, ↓vcP1, ↓vcP2, ↓reduceIte, reduceCtorEq, Nat.reduceLT, Nat.reduceLeDiff, Nat.reduceEqDiff, Nat.reduceAdd, Nat.reduceSub, Nat.reduceMul, Int.reduceLT, Int.reduceLE, Int.reduceEq, Int.reduceToNat, Int.reduceAdd, Int.reduceSub, Int.reduceNeg, List.reduceReplicate, Nat.reducePow, Int.reduceMul]
        refine ⟨hc, CallK.pure (step_any i2 i3 (by omega) ⟨hby1, hby2⟩) fun r os ⟨e1, e2⟩ => ?_⟩
        subst e1; subst e2
        rw [hu]
        simp -implicitDefEqProofs -dsimp only [tb_at, tb_all hk1, tb_all hb1, tb_all hq1, hw, hx, hy, intRows_length, intRows_nil, List.length_cons, List.length_nil, Nat.zero_add, List.append_nil, vcS, ↓vcP1, ↓vcP2, ↓reduceIte, reduceCtorEq, Nat.reduceLT, Nat.reduceLeDiff, Nat.reduceEqDiff, Nat.reduceAdd, Nat.reduceSub, Nat.reduceMul, Int.reduceLT, Int.reduceLE, Int.reduceEq, Int.reduceToNat, Int.reduceAdd, Int.reduceSub, Int.reduceNeg, List.reduceReplicate, Nat.reducePow, Int.reduceMul]
        refine ytake_K D1 hS (n := p.length) (by omega) fun T2 d2 r2 k2 D2 n2 y2 => ?_
        have hk2 := k2.at hk1 (by have := tb_lt hb; simp; omega)
        simp -implicitDefEqProofs -dsimp only [tb_at, tb_all hk2, vcS, ↓vcP1, ↓vcP2, ↓reduceIte, reduceCtorEq, Nat.reduceLT, Nat.reduceLeDiff, Nat.reduceEqDiff, Nat.reduceAdd, Nat.reduceSub, Nat.reduceMul, Int.reduceLT, Int.reduceLE, Int.reduceEq, Int.reduceToNat, Int.reduceAdd, Int.reduceSub, Int.reduceNeg, List.reduceReplicate, Nat.reducePow, Int.reduceMul]
        have k2' := k2
        have n2' := n2
        rw [← hT1] at k2' n2'
        obtain ⟨a1, a2, a3⟩ := D.fin k2' D2 n2'.wd (some (kyB 1 [] (.sl 0 [] .nil) 65533))
        refine ⟨a1.1, hK _ _ _ a1 a2 a3 (KV_r _)⟩
      · unfold rc_ywide_l0
        simp -implicitDefEqProofs -dsimp only [tb_at, tb_all hk1, tb_all hb1, tb_all hq1, hc', hc0, hw, intRows_length, Nat.zero_add, vcS, ↓vcP1, ↓vcP2, ↓reduceIte, reduceCtorEq, Nat.reduceLT, Nat.reduceLeDiff, Nat.reduceEqDiff, Nat.reduceAdd, Nat.reduceSub, Nat.reduceMul, Int.reduceLT, Int.reduceLE, Int.reduceEq, Int.reduceToNat, Int.reduceAdd, Int.reduceSub, Int.reduceNeg, List.reduceReplicate, Nat.reducePow, Int.reduceMul]
        refine ⟨hc, CallK.pure (step_any i2 i3 (by omega) ⟨hby1, hby2⟩) fun r os ⟨e1, e2⟩ => ?_⟩
        subst e1; subst e2
        rw [hu]
        simp -implicitDefEqProofs -dsimp only [tb_at, tb_all hk1, tb_all hb1, tb_all hq1, hw, intRows_length, intRows_nil, List.length_cons, List.length_nil, Nat.zero_add, List.append_nil, vcS, ↓vcP1, ↓vcP2, ↓reduceIte, reduceCtorEq, Nat.reduceLT, Nat.reduceLeDiff, Nat.reduceEqDiff, Nat.reduceAdd, Nat.reduceSub, Nat.reduceMul, Int.reduceLT, Int.reduceLE, Int.reduceEq, Int.reduceToNat, Int.reduceAdd, Int.reduceSub, Int.reduceNeg, List.reduceReplicate, Nat.reducePow, Int.reduceMul]
        exact ⟨(i + 1, 1, .any, u1), ⟨⟨rfl, .inl rfl, .inl rfl⟩, rfl⟩, ⟨by dsimp only; omega, .inl rfl, hui, by dsimp only; omega, h5⟩, by dsimp only; omega⟩
    · unfold rc_ywide_l0
      have hc' : ¬ (i : Int) < S.length := by omega
      have : i = S.length := by omega
      subst this
      rw [List.drop_length] at i5
      simp only [wideL] at i5
      cases late
      · simp -implicitDefEqProofs -dsimp only [tb_at, tb_all hk1, tb_all hb1, tb_all hq1, hc', intRows_length, Nat.zero_add, Bool.not_false, vcS, ↓vcP1, ↓vcP2, ↓reduceIte, reduceCtorEq, Nat.reduceLT, Nat.reduceLeDiff, Nat.reduceEqDiff, Nat.reduceAdd, Nat.reduceSub, Nat.reduceMul, Int.reduceLT, Int.reduceLE, Int.reduceEq, Int.reduceToNat, Int.reduceAdd, Int.reduceSub, Int.reduceNeg, List.reduceReplicate, Nat.reducePow, Int.reduceMul]
        simp only [Bool.false_eq_true, if_false] at i5
        rw [← i5] at hK
        rw [← hT1, tb_set0]
        obtain ⟨a1, a2, a3⟩ := D.fin0 [some (Ob.box [.int .i64 0, .str [], .sl 0 [] .nil, .int .i32 0, .sl 0 [] .nil])]
        exact ⟨by simp, hK _ _ _ a1 a2 a3 KV_z⟩
      · simp -implicitDefEqProofs -dsimp only [tb_at, tb_all hk1, tb_all hb1, tb_all hq1, hc', intRows_length, Nat.zero_add, Bool.not_true, vcS, ↓vcP1, ↓vcP2, ↓reduceIte, reduceCtorEq, Nat.reduceLT, Nat.reduceLeDiff, Nat.reduceEqDiff, Nat.reduceAdd, Nat.reduceSub, Nat.reduceMul, Int.reduceLT, Int.reduceLE, Int.reduceEq, Int.reduceToNat, Int.reduceAdd, Int.reduceSub, Int.reduceNeg, List.reduceReplicate, Nat.reducePow, Int.reduceMul]
        simp only [if_true] at i5
        rw [← i5] at hK
        refine ytake_K D1 hS (Nat.le_refl _) fun T2 d2 r2 k2 D2 n2 y2 => ?_
        have hk2 := k2.at hk1 (by have := tb_lt hb; simp; omega)
        simp -implicitDefEqProofs -dsimp only [tb_at, tb_all hk2, vcS, ↓vcP1, ↓vcP2, ↓reduceIte, reduceCtorEq, Nat.reduceLT, Nat.reduceLeDiff, Nat.reduceEqDiff, Nat.reduceAdd, Nat.reduceSub, Nat.reduceMul, Int.reduceLT, Int.reduceLE, Int.reduceEq, Int.reduceToNat, Int.reduceAdd, Int.reduceSub, Int.reduceNeg, List.reduceReplicate, Nat.reducePow, Int.reduceMul]
        have k2' := k2
        have n2' := n2
        rw [← hT1] at k2' n2'
        obtain ⟨a1, a2, a3⟩ := D.fin k2' D2 n2'.wd (some (kyB 1 [] (.sl 0 [] .nil) 65533))
        refine ⟨a1.1, hK _ _ _ a1 a2 a3 (KV_r _)⟩
noncomputable def rc_ysingle : RFn := ⟨2, 37, .seq (.reg [⟨some 4, .alloc [.int .i64 0, .str [], .sl 0 [] .nil, .int .i32 0, .sl 0 [] .nil], none, false⟩, ⟨some 5, .mov (.c (.bool false)), none, false⟩] 0 [0, 1, 4]) (.seq (.seq (.reg [⟨some 7, .mov (.t 0), none, false⟩, ⟨some 8, .nilck (.t 7), none, false⟩, ⟨some 9, .faddr 2 (.t 8), none, false⟩, ⟨some 10, .load false 1 (.t 9), none, false⟩, ⟨some 11, .iaddr 1 (.t 10) (.c (.int .i64 0)), none, false⟩, ⟨some 12, .load false 1 (.t 11), none, false⟩, ⟨some 6, .mov (.t 12), none, false⟩] 0 [0, 1, 4, 6]) (.blk 0 (.seq (.reg [⟨some 14, .mov (.t 6), none, false⟩, ⟨some 15, .bin .geq (.t 14) (.c (.int .u8 128)), none, false⟩, ⟨some 13, .mov (.t 15), none, false⟩] 0 [0, 1, 4, 6, 13]) (.cond (.t 13) (.seq (.reg [⟨some 16, .mov (.t 0), none, false⟩, ⟨some 17, .mov (.t 1), none, false⟩, ⟨some 18, .call 54 [.t 16, .t 17], none, false⟩, ⟨some 19, .ext (.t 18) 0, none, false⟩, ⟨some 20, .ext (.t 18) 1, none, false⟩, ⟨none, .store 5 (.t 4) (.t 19), none, false⟩, ⟨some 5, .mov (.t 20), none, false⟩] 0 [4, 5]) .ret) (.seq (.reg [⟨some 22, .mov (.t 6), none, false⟩, ⟨some 23, .bin .lss (.t 22) (.c (.int .u8 32)), none, false⟩, ⟨some 24, .mov (.t 23), none, false⟩, ⟨some 25, .mov (.t 6), some (24, false), false⟩, ⟨some 26, .bin .eql (.t 25) (.c (.int .u8 127)), some (24, false), false⟩, ⟨some 27, .pick (.t 24) (.c (.bool true)) (.t 26), none, false⟩, ⟨some 21, .mov (.t 27), none, false⟩] 0 [0, 4, 21]) (.cond (.t 21) (.seq (.reg [⟨some 28, .mov (.t 0), none, false⟩, ⟨some 29, .call 44 [.t 28, .c (.int .i64 1)], none, false⟩, ⟨some 30, .build [.int .i64 0, .str [], .sl 0 [] .nil, .int .i32 0, .sl 0 [] .nil] [(0, (1, (.c (.int .i64 3)))), (2, (1, (.t 29)))], none, false⟩, ⟨none, .store 5 (.t 4) (.t 30), none, false⟩, ⟨some 5, .mov (.c (.bool true)), none, false⟩] 0 [4, 5]) .ret) .skip)))))) (.seq (.reg [⟨some 31, .mov (.t 0), none, false⟩, ⟨some 32, .call 44 [.t 31, .c (.int .i64 1)], none, false⟩, ⟨some 33, .iaddr 1 (.t 32) (.c (.int .i64 0)), none, false⟩, ⟨some 34, .load false 1 (.t 33), none, false⟩, ⟨some 35, .conv (.i2i .i32) (.t 34), none, false⟩, ⟨some 36, .build [.int .i64 0, .str [], .sl 0 [] .nil, .int .i32 0, .sl 0 [] .nil] [(0, (1, (.c (.int .i64 1)))), (3, (1, (.t 35)))], none, false⟩, ⟨none, .store 5 (.t 4) (.t 36), none, false⟩, ⟨some 5, .mov (.c (.bool true)), none, false⟩] 0 [4, 5]) .ret)), [.c 4 true 5, .t 5]⟩
theorem rc_ysingle_ok : compFn PG.P [⟨0, 0, [0, 1, 4], []⟩, ⟨1, 0, [0, 1, 4, 6], []⟩, ⟨2, 0, [0, 1, 4, 6, 13], []⟩, ⟨3, 0, [4, 5], []⟩, ⟨4, 0, [0, 4, 21], []⟩, ⟨5, 0, [4, 5], []⟩, ⟨6, 0, [4, 5], []⟩] 43 = some rc_ysingle := by kernel_rfl
def singleF (late : Bool) (S : List Int) : Option Ky × List Int :=
  if 128 ≤ S.headD 0 then ((wideL late S [] 0).map fun x => kyR x.1, S.drop (wn (wideL late S [] 0)))
  else if S.headD 0 < 32 ∨ S.headD 0 = 127 then (some ⟨3, [], S.take 1, 0, []⟩, S.drop 1)
  else (some (kyR (S.headD 0)), S.drop 1)
theorem wk_eq (r : Option (Int × Nat)) : wk r = (r.map fun x => kyR x.1).getD kyZ := by cases r <;> rfl
theorem KV.vals {v : DV} {k : Ky} (h : KV v k) : ∃ s1 s2 k1 k2, v = .agg [.int .i64 k.kind, .str k.cmd, .sl s1 (intRows .u8 k.seq) k1, .int .i32 k.r, .sl s2 (intRows .i32 k.text) k2] := by
  obtain ⟨ds, dt, rfl, ⟨s1, k1, rfl, _⟩, ⟨s2, k2, rfl, _⟩⟩ := h
  exact ⟨_, _, _, _, rfl⟩
theorem ysingle_K {T : Objs} {o c h : Nat} {d : DV} {L : List Bd} {S : List Int} {pa late : Bool} {sc at' : Int} {K : DV → Objs → Prop} (D : DecAt T o c h d L S pa sc at') (hS : S ≠ [])
    (hK : ∀ T' d' v, Keep T T' [o] → DecAt T' o c h d' L (singleF late S).2 pa sc at' → Nwd T.length d d' → KV v ((singleF late S).1.getD kyZ) → K (.tup [v, .bool (singleF late S).1.isSome]) T') :
    CallK PG 43 [.ptr o 0 0, .bool late] T K := by
  obtain ⟨q, rfl, hq⟩ := D.lf.resolve_right (fun h => hS h.1)
  obtain ⟨b, S, rfl⟩ := List.exists_cons_of_ne_nil hS
  have hb := D.box
  unfold DecB at hb
  have hl := D.len
  have hby := D.inS.u8 (n := b) (by simp)
  have hT := (D.fin0 [some (Ob.box [.int .i64 0, .str [], .sl 0 [] .nil, .int .i32 0, .sl 0 [] .nil])])
  have D1 := hT.2.1
  have hk1 : (T ++ [some (Ob.box [.int .i64 0, .str [], .sl 0 [] .nil, .int .i32 0, .sl 0 [] .nil])])[T.length]? = some (some (Ob.box [.int .i64 0, .str [], .sl 0 [] .nil, .int .i32 0, .sl 0 [] .nil])) := tb_get0 _ _ _
  have hg : (intRows .u8 (b :: S))[0]? = some [.int .u8 b] := rfl
  have hoT := tb_lt hb
  have hlen : (0 : Int) < ((S.length + 1 : Nat) : Int) := by omega
  by_cases c1 : 128 ≤ b
  · have e : singleF late (b :: S) = ((wideL late (b :: S) [] 0).map fun x => kyR x.1, (b :: S).drop (wn (wideL late (b :: S) [] 0))) := if_pos c1
    rw [e] at hK
    refine CallK.of_fn FOk.nil rc_ysingle_ok (by simp [rc_ysingle]) ?_
    unfold rc_ysingle
    dsimp only
    simp -implicitDefEqProofs -dsimp only [tb_at, tb_all hb, tb_all hq, hg, c1, hlen, intRows_length, Nat.zero_add, vcS, ↓vcP1, ↓vcP2, ↓reduceIte, reduceCtorEq, Nat.reduceLT, Nat.reduceLeDiff, Nat.reduceEqDiff, Nat.reduceAdd, Nat.reduceSub, Nat.reduceMul, Int.reduceLT, Int.reduceLE, Int.reduceEq, Int.reduceToNat, Int.reduceAdd, Int.reduceSub, Int.reduceNeg, List.reduceReplicate, Nat.reducePow, Int.reduceMul]
    refine ywide_K D1 hS fun T2 d2 v k2 D2 n2 y2 => ?_
    have hk2 := k2.at hk1 (by simp; omega)
    rw [wk_eq] at y2
    obtain ⟨s1, s2, kk1, kk2, ev⟩ := y2.vals
    have hs : (wideL late (b :: S) [] 0).isSome = ((wideL late (b :: S) [] 0).map fun x => kyR x.1).isSome := by simp
    rw [hs]
    obtain ⟨a1, a2, a3⟩ := D.fin k2 D2 n2 (some (.box [.int .i64 (((wideL late (b :: S) [] 0).map fun x => kyR x.1).getD kyZ).kind, .str (((wideL late (b :: S) [] 0).map fun x => kyR x.1).getD kyZ).cmd, .sl s1 (intRows .u8 (((wideL late (b :: S) [] 0).map fun x => kyR x.1).getD kyZ).seq) kk1, .int .i32 (((wideL late (b :: S) [] 0).map fun x => kyR x.1).getD kyZ).r, .sl s2 (intRows .i32 (((wideL late (b :: S) [] 0).map fun x => kyR x.1).getD kyZ).text) kk2]))
    have := hK _ _ _ a1 a2 a3 y2
    dsimp only at this
    rw [ev] at this ⊢
    simp -implicitDefEqProofs -dsimp only [tb_at, tb_all hk2, vcS, ↓vcP1, ↓vcP2, ↓reduceIte, reduceCtorEq, Nat.reduceLT, Nat.reduceLeDiff, Nat.reduceEqDiff, Nat.reduceAdd, Nat.reduceSub, Nat.reduceMul, Int.reduceLT, Int.reduceLE, Int.reduceEq, Int.reduceToNat, Int.reduceAdd, Int.reduceSub, Int.reduceNeg, List.reduceReplicate, Nat.reducePow, Int.reduceMul]
    exact ⟨a1.1, this⟩
  · by_cases c2 : b < 32
    · have e : singleF late (b :: S) = (some ⟨3, [], (b :: S).take 1, 0, []⟩, (b :: S).drop 1) := by unfold singleF; rw [if_neg (by simpa using c1), if_pos (.inl c2)]
      rw [e] at hK
      refine CallK.of_fn FOk.nil rc_ysingle_ok (by simp [rc_ysingle]) ?_
      unfold rc_ysingle
      dsimp only
      simp -implicitDefEqProofs -dsimp only [tb_at, tb_all hb, tb_all hq, hg, c1, c2, hlen, intRows_length, Nat.zero_add, vcS, ↓vcP1, ↓vcP2, ↓reduceIte, reduceCtorEq, Nat.reduceLT, Nat.reduceLeDiff, Nat.reduceEqDiff, Nat.reduceAdd, Nat.reduceSub, Nat.reduceMul, Int.reduceLT, Int.reduceLE, Int.reduceEq, Int.reduceToNat, Int.reduceAdd, Int.reduceSub, Int.reduceNeg, List.reduceReplicate, Nat.reducePow, Int.reduceMul]
      refine ytake_K D1 hS (n := 1) (by simp) fun T2 d2 r2 k2 D2 n2 y2 => ?_
      have hk2 := k2.at hk1 (by simp; omega)
      obtain ⟨s1, kk1, rfl, y3⟩ := y2
      obtain ⟨a1, a2, a3⟩ := D.fin k2 D2 n2.wd (some (.box [.int .i64 3, .str [], .sl s1 (intRows .u8 ((b :: S).take 1)) kk1, .int .i32 0, .sl 0 [] .nil]))
      simp -implicitDefEqProofs -dsimp only [tb_at, tb_all hk2, vcS, ↓vcP1, ↓vcP2, ↓reduceIte, reduceCtorEq, Nat.reduceLT, Nat.reduceLeDiff, Nat.reduceEqDiff, Nat.reduceAdd, Nat.reduceSub, Nat.reduceMul, Int.reduceLT, Int.reduceLE, Int.reduceEq, Int.reduceToNat, Int.reduceAdd, Int.reduceSub, Int.reduceNeg, List.reduceReplicate, Nat.reducePow, Int.reduceMul]
      exact ⟨a1.1, hK _ _ _ a1 a2 a3 ⟨_, _, rfl, ⟨s1, kk1, rfl, y3⟩, RB_nil⟩⟩
    · by_cases c3 : b = 127
      · have e : singleF late (b :: S) = (some ⟨3, [], (b :: S).take 1, 0, []⟩, (b :: S).drop 1) := by unfold singleF; rw [if_neg (by simpa using c1), if_pos (.inr c3)]
        rw [e] at hK
        refine CallK.of_fn FOk.nil rc_ysingle_ok (by simp [rc_ysingle]) ?_
        unfold rc_ysingle
        dsimp only
        simp -implicitDefEqProofs -dsimp only [tb_at, tb_all hb, tb_all hq, hg, c1, c2, c3, hlen, intRows_length, Nat.zero_add, vcS, ↓vcP1, ↓vcP2, ↓reduceIte, reduceCtorEq, Nat.reduceLT, Nat.reduceLeDiff, Nat.reduceEqDiff, Nat.reduceAdd, Nat.reduceSub, Nat.reduceMul, Int.reduceLT, Int.reduceLE, Int.reduceEq, Int.reduceToNat, Int.reduceAdd, Int.reduceSub, Int.reduceNeg, List.reduceReplicate, Nat.reducePow, Int.reduceMul]
        refine ytake_K D1 hS (n := 1) (by simp) fun T2 d2 r2 k2 D2 n2 y2 => ?_
        have hk2 := k2.at hk1 (by simp; omega)
        obtain ⟨s1, kk1, rfl, y3⟩ := y2
        obtain ⟨a1, a2, a3⟩ := D.fin k2 D2 n2.wd (some (.box [.int .i64 3, .str [], .sl s1 (intRows .u8 ((b :: S).take 1)) kk1, .int .i32 0, .sl 0 [] .nil]))
        simp -implicitDefEqProofs -dsimp only [tb_at, tb_all hk2, vcS, ↓vcP1, ↓vcP2, ↓reduceIte, reduceCtorEq, Nat.reduceLT, Nat.reduceLeDiff, Nat.reduceEqDiff, Nat.reduceAdd, Nat.reduceSub, Nat.reduceMul, Int.reduceLT, Int.reduceLE, Int.reduceEq, Int.reduceToNat, Int.reduceAdd, Int.reduceSub, Int.reduceNeg, List.reduceReplicate, Nat.reducePow, Int.reduceMul]
        exact ⟨a1.1, hK _ _ _ a1 a2 a3 ⟨_, _, rfl, ⟨s1, kk1, rfl, y3⟩, RB_nil⟩⟩
      · have e : singleF late (b :: S) = (some (kyR b), (b :: S).drop 1) := by unfold singleF; rw [if_neg (by simpa using c1), if_neg (by simp; exact ⟨by omega, c3⟩)]; rfl
        rw [e] at hK
        refine CallK.of_fn FOk.nil rc_ysingle_ok (by simp [rc_ysingle]) ?_
        unfold rc_ysingle
        dsimp only
        simp -implicitDefEqProofs -dsimp only [tb_at, tb_all hb, tb_all hq, hg, c1, c2, c3, hlen, intRows_length, Nat.zero_add, vcS, ↓vcP1, ↓vcP2, ↓reduceIte, reduceCtorEq, Nat.reduceLT, Nat.reduceLeDiff, Nat.reduceEqDiff, Nat.reduceAdd, Nat.reduceSub, Nat.reduceMul, Int.reduceLT, Int.reduceLE, Int.reduceEq, Int.reduceToNat, Int.reduceAdd, Int.reduceSub, Int.reduceNeg, List.reduceReplicate, Nat.reducePow, Int.reduceMul]
        refine ytake_K D1 hS (n := 1) (by simp) fun T2 d2 r2 k2 D2 n2 y2 => ?_
        have hk2 := k2.at hk1 (by simp; omega)
        obtain ⟨s1, kk1, rfl, y3⟩ := y2
        rcases y3 with rfl | y3
        · obtain ⟨a1, a2, a3⟩ := D.fin k2 D2 n2.wd (some (kyB 1 [] (.sl 0 [] .nil) b))
          have hg1 : (intRows .u8 ((b :: S).take 1))[0]? = some [.int .u8 b] := rfl
          have hg2 : (intRows .u8 ((b :: S).take 1)).length = 1 := rfl
          have hw : IntKind.i32.wrap b = b := wI32 (by omega) (by omega)
          simp -implicitDefEqProofs -dsimp only [tb_at, tb_all hk2, hg1, hg2, hw, vcS, ↓vcP1, ↓vcP2, ↓reduceIte, reduceCtorEq, Nat.reduceLT, Nat.reduceLeDiff, Nat.reduceEqDiff, Nat.reduceAdd, Nat.reduceSub, Nat.reduceMul, Int.reduceLT, Int.reduceLE, Int.reduceEq, Int.reduceToNat, Int.reduceAdd, Int.reduceSub, Int.reduceNeg, List.reduceReplicate, Nat.reducePow, Int.reduceMul]
          exact ⟨a1.1, hK _ _ _ a1 a2 a3 (KV_r _)⟩
        · simp at y3
end Go.Proofs.YtdimdjcnkmkbjaaDoor
