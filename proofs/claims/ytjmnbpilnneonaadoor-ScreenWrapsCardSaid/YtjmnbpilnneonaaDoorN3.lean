/- Texts H2, H3 in one. -/
import Derived.Test.YtjmnbpilnneonaaDoorN2
import Derived.Test.YtjmnbpilnneonaaDoorM7
set_option linter.unusedVariables false
set_option linter.unusedSimpArgs false
set_option maxRecDepth 10000
namespace Go.Proofs.YtjmnbpilnneonaaDoor
open Go.RowKit
def tmBox (s : Sc) (q tq : Nat) (od : DV) (m pr : Int) (d1 d2 d3 : DV) : List DV :=
  [.int .i64 s.rows, .int .i64 s.cols, .own q 0 s.cells.length, .int .i64 s.y, .int .i64 s.x, .bool s.wrap, .int .u16 s.attr, .int .i64 s.top, .int .i64 s.bot, .own tq 0 s.tabs.length,
   .int .i64 s.sy, .int .i64 s.sx, .int .u16 s.sattr, .bool s.auto, .bool s.shown, .bool s.alt, od, .int .i64 s.oy, .int .i64 s.ox, .int .i64 m, .int .u8 pr, d1, d2, d3]
def Dd (B : Objs) (k : Nat) : Prop := ∀ ob, B[k]? ≠ some (some ob)
theorem Dd.ge {B : Objs} {k : Nat} (h : B.length ≤ k) : Dd B k := fun ob e => by have := tb_lt e; omega
def OthAt (n : Objs) (T : Objs) (o q tq : Nat) (s : Sc) (od : DV) : Prop :=
  (∃ oq, od = .own oq 0 s.other.length ∧ T[oq]? = some (some (.arr 3 (ceRows s.other))) ∧ oq ≠ o ∧ oq ≠ q ∧ oq ≠ tq ∧ Dd n oq) ∨ (s.alt = false ∧ ∃ sz k, od = .sl sz [] k)
structure PaAt (p : Pa) (m pr : Int) (d1 d2 d3 : DV) : Prop where
  m : m = p.m
  pr : pr = p.pr
  i1 : isInts .i64 d1
  i2 : isInts .u8 d2
  i3 : isInts .u8 d3
  e1 : intsD d1 = p.P
  e2 : intsD d2 = p.I
  e3 : intsD d3 = p.U
structure TmAt (n : Objs) (T : Objs) (o q tq : Nat) (s : Sc) (od : DV) (m pr : Int) (d1 d2 d3 : DV) : Prop where
  box : T[o]? = some (some (.box (tmBox s q tq od m pr d1 d2 d3)))
  cells : T[q]? = some (some (.arr 3 (ceRows s.cells)))
  tabs : T[tq]? = some (some (.arr 1 (boRows s.tabs)))
  oth : OthAt n T o q tq s od
  oq : o ≠ q
  ot : o ≠ tq
  qt : q ≠ tq
  no : Dd n o
  nq : Dd n q
  nt : Dd n tq
def TermAt (T0 T : Objs) (o : Nat) (s : Sc) (p : Pa) : Prop := Keep T0 T [] ∧ ∃ q tq od m pr d1 d2 d3, PaAt p m pr d1 d2 d3 ∧ TmAt T0 T o q tq s od m pr d1 d2 d3
theorem TmAt.mono {n : Objs} {T T' : Objs} {o q tq : Nat} {s : Sc} {od : DV} {m pr : Int} {d1 d2 d3 : DV} (h : TmAt n T o q tq s od m pr d1 d2 d3) (k : Keep T T' []) : TmAt n T' o q tq s od m pr d1 d2 d3 :=
  ⟨k.at h.box (by simp), k.at h.cells (by simp), k.at h.tabs (by simp), h.oth.imp (fun ⟨oq, h1, h2, h3⟩ => ⟨oq, h1, k.at h2 (by simp), h3⟩) id, h.oq, h.ot, h.qt, h.no, h.nq, h.nt⟩
theorem TmAt.put {n : Objs} {T : Objs} {o q tq : Nat} {s : Sc} {od : DV} {m pr : Int} {d1 d2 d3 : DV} (h : TmAt n T o q tq s od m pr d1 d2 d3) {s' : Sc} {m' pr' : Int} {e1 e2 e3 : DV} {l : List DV} (hl : l = tmBox s' q tq od m' pr' e1 e2 e3)
    (hc : s'.cells = s.cells) (ht : s'.tabs = s.tabs) (ha : s'.alt = s.alt) (ho : s'.other = s.other) : TmAt n (T.set o (some (.box l))) o q tq s' od m' pr' e1 e2 e3 := by
  subst hl
  refine ⟨tb_ss h.box _, by rw [hc]; exact tb_ne h.cells _ h.oq.symm, by rw [ht]; exact tb_ne h.tabs _ h.ot.symm, ?_, h.oq, h.ot, h.qt, h.no, h.nq, h.nt⟩
  rcases h.oth with ⟨oq, h1, h2, h3, h4⟩ | ⟨h1, h2⟩
  · exact .inl ⟨oq, by rw [ho]; exact h1, by rw [ho]; exact tb_ne h2 _ h3, h3, h4⟩
  · exact .inr ⟨by rw [ha]; exact h1, h2⟩
theorem TmAt.grid {n : Objs} {T T' : Objs} {o q tq p : Nat} {s : Sc} {od : DV} {m pr : Int} {d1 d2 d3 : DV} (h : TmAt n T o q tq s od m pr d1 d2 d3) (k : Keep T T' []) (hn : n.length ≤ T.length) (hp : T.length ≤ p) {s' : Sc} {l : List DV} (hl : l = tmBox s' p tq od m pr d1 d2 d3)
    (hc : T'[p]? = some (some (.arr 3 (ceRows s'.cells)))) (ht : s'.tabs = s.tabs) (ha : s'.alt = s.alt) (ho : s'.other = s.other) : TmAt n (T'.set o (some (.box l))) o p tq s' od m pr d1 d2 d3 := by
  subst hl
  have lo := tb_lt h.box
  have lt := tb_lt h.tabs
  refine ⟨tb_ss (k.at h.box (by simp)) _, tb_ne hc _ (by omega), by rw [ht]; exact tb_ne (k.at h.tabs (by simp)) _ h.ot.symm, ?_, by omega, h.ot, by omega, h.no, Dd.ge (by omega), h.nt⟩
  rcases h.oth with ⟨oq, h1, h2, h3, h4, h5⟩ | ⟨h1, h2⟩
  · have lq := tb_lt h2
    exact .inl ⟨oq, by rw [ho]; exact h1, by rw [ho]; exact tb_ne (k.at h2 (by simp)) _ h3, h3, by omega, h5⟩
  · exact .inr ⟨by rw [ha]; exact h1, h2⟩
theorem tb_self {T : Objs} {q : Nat} {x : Option Ob} (h : T[q]? = some x) : T.set q x = T := by
  refine List.ext_getElem? fun i => ?_
  rw [List.getElem?_set]
  by_cases e : q = i
  · subst e; rw [if_pos rfl, if_pos (tb_lt h), h]
  · rw [if_neg e]
theorem TmAt.tab {n : Objs} {T : Objs} {o q tq : Nat} {s : Sc} {od : DV} {m pr : Int} {d1 d2 d3 : DV} (h : TmAt n T o q tq s od m pr d1 d2 d3) {t' : List Bool} (ht : t'.length = s.tabs.length) : TmAt n (T.set tq (some (.arr 1 (boRows t')))) o q tq { s with tabs := t' } od m pr d1 d2 d3 := by
  refine ⟨?_, tb_ne h.cells _ h.qt, tb_ss h.tabs _, ?_, h.oq, h.ot, h.qt, h.no, h.nq, h.nt⟩
  · have := tb_ne h.box (some (.arr 1 (boRows t'))) h.ot
    unfold tmBox at this ⊢
    dsimp only
    rw [ht]
    exact this
  · exact h.oth.imp (fun ⟨oq, h1, h2, h3, h4, h5, h6⟩ => ⟨oq, h1, tb_ne h2 _ h5, h3, h4, h5, h6⟩) id
theorem TmAt.celK {n : Objs} {T T' : Objs} {o q tq : Nat} {s : Sc} {od : DV} {m pr : Int} {d1 d2 d3 : DV} (h : TmAt n T o q tq s od m pr d1 d2 d3) {L : List Ce} (k : Keep T T' [q]) (hc : T'[q]? = some (some (.arr 3 (ceRows L)))) (hl : L.length = s.cells.length) : TmAt n T' o q tq { s with cells := L } od m pr d1 d2 d3 := by
  refine ⟨?_, hc, k.at h.tabs (by simpa using h.qt.symm), ?_, h.oq, h.ot, h.qt, h.no, h.nq, h.nt⟩
  · have := k.at h.box (by simpa using h.oq)
    unfold tmBox at this ⊢
    dsimp only
    rw [hl]
    exact this
  · exact h.oth.imp (fun ⟨oq, h1, h2, h3, h4, h5, h6⟩ => ⟨oq, h1, k.at h2 (by simpa using h4), h3, h4, h5, h6⟩) id
theorem isInts_none (k : IntKind) (sz : Nat) (s : SK) : isInts k (.sl sz [] s) := ⟨rfl, .inr rfl, inK_nil _⟩
theorem Keep.put {T0 T : Objs} (k : Keep T0 T []) {o : Nat} (h : Dd T0 o) (x : Option Ob) : Keep T0 (T.set o x) [] := ⟨by simpa using k.1, fun j ob hj hh => by
  have hne : o ≠ j := fun e => h ob (by rw [e]; exact hh)
  rw [List.getElem?_set_ne hne]
  exact k.2 j ob hj hh⟩
theorem Keep.newD {T0 T T' : Objs} (k : Keep T0 T []) {q : Nat} (kk : Keep T T' [q]) (h : Dd T0 q) : Keep T0 T' [] := ⟨Nat.le_trans k.1 kk.1, fun j ob hj hh => kk.2 j ob (by
  intro e
  have e : j = q := by simpa using e
  exact h ob (by rw [← e]; exact hh)) (k.2 j ob hj hh)⟩
theorem TermAt.newG {T0 T T' : Objs} {o q tq p : Nat} {s s2 : Sc} {pp : Pa} {od : DV} {m pr : Int} {d1 d2 d3 : DV} {L : List Ce} (pa : PaAt pp m pr d1 d2 d3) (k0 : Keep T0 T []) (t : TmAt T0 T o q tq s od m pr d1 d2 d3) (k : Keep T T' []) (hp : T.length ≤ p) (hc : T'[p]? = some (some (.arr 3 (ceRows L))))
    (hl : L.length = s2.cells.length) (ht : s2.tabs = s.tabs) (ha : s2.alt = s.alt) (ho : s2.other = s.other) : TermAt T0 (T'.set o (some (.box (tmBox s2 p tq od m pr d1 d2 d3)))) o { s2 with cells := L } pp := by
  refine ⟨(k0.new k (by simp)).put t.no _, p, tq, od, m, pr, d1, d2, d3, pa, t.grid k k0.1 hp (s' := { s2 with cells := L }) ?_ hc ht ha ho⟩
  unfold tmBox
  dsimp only
  rw [hl]
noncomputable def rc_tnext : RFn := ⟨1, 65, .seq (.reg [⟨some 2, .mov (.t 0), none, false⟩, ⟨some 3, .nilck (.t 2), none, false⟩, ⟨some 4, .faddr 0 (.t 3), none, false⟩, ⟨some 5, .faddr 5 (.t 4), none, false⟩, ⟨none, .store 1 (.t 5) (.c (.bool false)), none, false⟩] 0 [0]) (.blk 0 (.seq (.regD (.take ⟨some 7, .mov (.t 0), none, false⟩ [] (.take ⟨some 8, .nilck (.t 7), none, false⟩ [] (.take ⟨some 9, .faddr 0 (.t 8), none, false⟩ [] (.take ⟨some 10, .faddr 3 (.t 9), none, false⟩ [] (.take ⟨some 11, .load false 1 (.t 10), none, false⟩ [] (.take ⟨some 12, .mov (.t 0), none, false⟩ [] (.take ⟨some 13, .nilck (.t 12), none, false⟩ [] (.take ⟨some 14, .faddr 0 (.t 13), none, false⟩ [] (.take ⟨some 15, .faddr 8 (.t 14), none, false⟩ [] (.take ⟨some 16, .load false 1 (.t 15), none, false⟩ [] (.take ⟨some 17, .bin .eql (.t 11) (.t 16), none, false⟩ [] (.take ⟨some 6, .mov (.t 17), none, false⟩ [] .done)))))))))))) 0 [0, 6]) (.cond (.t 6) (.regD (.take ⟨some 18, .mov (.t 0), none, false⟩ [] (.take ⟨some 19, .mov (.t 0), none, false⟩ [] (.take ⟨some 20, .nilck (.t 19), none, false⟩ [] (.take ⟨some 21, .faddr 0 (.t 20), none, false⟩ [] (.take ⟨some 22, .faddr 2 (.t 21), none, false⟩ [] (.take ⟨some 23, .load false 1 (.t 22), none, false⟩ [] (.take ⟨some 24, .mov (.t 0), none, false⟩ [] (.take ⟨some 25, .nilck (.t 24), none, false⟩ [] (.take ⟨some 26, .faddr 0 (.t 25), none, false⟩ [] (.take ⟨some 27, .faddr 1 (.t 26), none, false⟩ [] (.take ⟨some 28, .load false 1 (.t 27), none, false⟩ [] (.take ⟨some 29, .mov (.t 0), none, false⟩ [] (.take ⟨some 30, .nilck (.t 29), none, false⟩ [] (.take ⟨some 31, .faddr 0 (.t 30), none, false⟩ [] (.take ⟨some 32, .faddr 7 (.t 31), none, false⟩ [] (.take ⟨some 33, .load false 1 (.t 32), none, false⟩ [] (.take ⟨some 34, .mov (.t 0), none, false⟩ [] (.take ⟨some 35, .nilck (.t 34), none, false⟩ [] (.take ⟨some 36, .faddr 0 (.t 35), none, false⟩ [] (.take ⟨some 37, .faddr 8 (.t 36), none, false⟩ [] (.take ⟨some 38, .load false 1 (.t 37), none, false⟩ [] (.mid ⟨some 39, .call 78 [.t 23, .t 28, .t 33, .t 38, .c (.int .i64 1)], none, false⟩ (.take ⟨some 40, .nilck (.t 18), none, false⟩ [] (.take ⟨some 41, .faddr 0 (.t 40), none, false⟩ [] (.take ⟨some 42, .faddr 2 (.t 41), none, false⟩ [] (.op ⟨none, .store 1 (.t 42) (.t 39), none, false⟩ .done)))))))))))))))))))))))))) 0 []) (.seq (.regD (.take ⟨some 44, .mov (.t 0), none, false⟩ [] (.take ⟨some 45, .nilck (.t 44), none, false⟩ [] (.take ⟨some 46, .faddr 0 (.t 45), none, false⟩ [] (.take ⟨some 47, .faddr 3 (.t 46), none, false⟩ [] (.take ⟨some 48, .load false 1 (.t 47), none, false⟩ [] (.take ⟨some 49, .mov (.t 0), none, false⟩ [] (.take ⟨some 50, .nilck (.t 49), none, false⟩ [] (.take ⟨some 51, .faddr 0 (.t 50), none, false⟩ [] (.take ⟨some 52, .faddr 0 (.t 51), none, false⟩ [] (.take ⟨some 53, .load false 1 (.t 52), none, false⟩ [] (.take ⟨some 54, .bin .sub (.t 53) (.c (.int .i64 1)), none, false⟩ [] (.take ⟨some 55, .bin .lss (.t 48) (.t 54), none, false⟩ [] (.take ⟨some 43, .mov (.t 55), none, false⟩ [] .done))))))))))))) 0 [0, 43]) (.cond (.t 43) (.reg [⟨some 56, .mov (.t 0), none, false⟩, ⟨some 57, .nilck (.t 56), none, false⟩, ⟨some 58, .faddr 0 (.t 57), none, false⟩, ⟨some 59, .faddr 3 (.t 58), none, false⟩, ⟨some 60, .load false 1 (.t 59), none, false⟩, ⟨some 61, .bin .add (.t 60) (.c (.int .i64 1)), none, false⟩, ⟨some 62, .nilck (.t 56), none, false⟩, ⟨some 63, .faddr 0 (.t 62), none, false⟩, ⟨some 64, .faddr 3 (.t 63), none, false⟩, ⟨none, .store 1 (.t 64) (.t 61), none, false⟩] 0 []) .skip))))), []⟩
theorem rc_tnext_ok : compFn PG.P [⟨0, 0, [0], []⟩, ⟨1, 0, [0, 6], []⟩, ⟨2, 0, [], []⟩, ⟨3, 0, [0, 43], []⟩, ⟨4, 0, [], []⟩] 55 = some rc_tnext := by kernel_rfl
theorem TermAt.mk {T0 T : Objs} {o q tq : Nat} {s : Sc} {p : Pa} {od : DV} {m pr : Int} {d1 d2 d3 : DV} (k : Keep T0 T []) (pa : PaAt p m pr d1 d2 d3) (t : TmAt T0 T o q tq s od m pr d1 d2 d3) : TermAt T0 T o s p := ⟨k, q, tq, od, m, pr, d1, d2, d3, pa, t⟩
theorem TermAt.keep {T0 T T' : Objs} {o : Nat} {s : Sc} {p : Pa} (h : TermAt T0 T o s p) (k : Keep T T' []) : TermAt T0 T' o s p :=
  let ⟨k0, q, tq, od, m, pr, d1, d2, d3, pa, t⟩ := h
  ⟨k0.new k (by simp), q, tq, od, m, pr, d1, d2, d3, pa, t.mono k⟩
theorem TermAt.base {T0 B T : Objs} {o : Nat} {s : Sc} {p : Pa} (h : TermAt T0 T o s p) (k : Keep B T0 []) : TermAt B T o s p := by
  obtain ⟨k0, q, tq, od, m, pr, d1, d2, d3, pa, t⟩ := h
  have dd : ∀ {j}, Dd T0 j → Dd B j := fun h ob e => h ob (k.2 _ ob (by simp) e)
  exact ⟨k.new k0 (by simp), q, tq, od, m, pr, d1, d2, d3, pa, t.box, t.cells, t.tabs, t.oth.imp (fun ⟨oq, a, b, c, d, e, f⟩ => ⟨oq, a, b, c, d, e, dd f⟩) id, t.oq, t.ot, t.qt, dd t.no, dd t.nq, dd t.nt⟩
theorem TermAt.tight {T0 T : Objs} {o : Nat} {s : Sc} {p : Pa} (h : TermAt T0 T o s p) (l : Objs) : ∃ B, TermAt B (T ++ l) o s p ∧ Keep T0 B [] ∧ B.length = (T ++ l).length ∧ ∀ (j : Nat) ob, T.length ≤ j → (T ++ l)[j]? = some (some ob) → B[j]? = some (some ob) := by
  obtain ⟨k0, q, tq, od, m, pr, d1, d2, d3, pa, t⟩ := h
  have lo := tb_lt t.box
  have lq := tb_lt t.cells
  have lt := tb_lt t.tabs
  have self : ∀ (A : Objs) (j : Nat), Dd (A.set j none) j := fun A j ob e => by
    rw [List.getElem?_set] at e
    simp at e
  have keepD : ∀ {A : Objs} {j i : Nat}, Dd A j → Dd (A.set i none) j := fun {A j i} h ob e => by
    rw [List.getElem?_set] at e
    split at e
    · simp at e
    · exact h ob e
  have sub : ∀ {A C : Objs} {i : Nat}, Keep A C [] → Keep (A.set i none) C [] := fun {A C i} k => ⟨by simpa using k.1, fun j ob hj e => by
    rw [List.getElem?_set] at e
    split at e
    · simp at e
    · exact k.2 j ob hj e⟩
  rcases t.oth with ⟨oq, e, ho, n1, n2, n3, n4⟩ | hn
  · have loq := tb_lt ho
    refine ⟨((((T ++ l).set o none).set q none).set tq none).set oq none, ⟨sub (sub (sub (sub (Keep.refl _ _)))), q, tq, od, m, pr, d1, d2, d3, pa, tb_f t.box l, tb_f t.cells l, tb_f t.tabs l, .inl ⟨oq, e, tb_f ho l, n1, n2, n3, self _ _⟩, t.oq, t.ot, t.qt, keepD (keepD (keepD (self _ _))), keepD (keepD (self _ _)), keepD (self _ _)⟩,
      (((k0.newApp l).put t.no none).put t.nq none).put t.nt none |>.put n4 none, by simp, fun j ob hj hh => ?_⟩
    rw [List.getElem?_set_ne (by omega), List.getElem?_set_ne (by omega), List.getElem?_set_ne (by omega), List.getElem?_set_ne (by omega)]
    exact hh
  · refine ⟨(((T ++ l).set o none).set q none).set tq none, ⟨sub (sub (sub (Keep.refl _ _))), q, tq, od, m, pr, d1, d2, d3, pa, tb_f t.box l, tb_f t.cells l, tb_f t.tabs l, .inr hn, t.oq, t.ot, t.qt, keepD (keepD (self _ _)), keepD (self _ _), self _ _⟩,
      ((k0.newApp l).put t.no none).put t.nq none |>.put t.nt none, by simp, fun j ob hj hh => ?_⟩
    rw [List.getElem?_set_ne (by omega), List.getElem?_set_ne (by omega), List.getElem?_set_ne (by omega)]
    exact hh
theorem TermAt.len {T0 T : Objs} {o : Nat} {s : Sc} {p : Pa} (h : TermAt T0 T o s p) : T0.length ≤ T.length := h.1.1
theorem tnext_K {T0 T : Objs} {o : Nat} {s : Sc} {p : Pa} {K : DV → Objs → Prop} (ok : ScOk s) (h : TermAt T0 T o s p) (hK : ∀ T', T.length ≤ T'.length → TermAt T0 T' o (nextF s) p → K (.tup []) T') : CallK PG 55 [.ptr o 0 0] T K := by
  obtain ⟨k0, q, tq, od, m, pr, d1, d2, d3, pa, t⟩ := h
  have hb := t.box
  unfold tmBox at hb
  refine CallK.of_fn FOk.nil rc_tnext_ok (by simp [rc_tnext]) ?_
  unfold rc_tnext
  dsimp only
  rcases Decidable.em (s.y = s.bot) with c1 | c1
  · have c1' : (s.y : Int) = s.bot := by omega
    have e : nextF s = { s with wrap := false, cells := upF s.cells s.cols s.top s.bot 1 } := by unfold nextF; rw [if_pos c1]
    rw [e] at hK
    simp -implicitDefEqProofs -dsimp only [tb_at, tb_all hb, eq_true c1', vcS, ↓vcP1, ↓vcP2, ↓reduceIte, reduceCtorEq, Nat.reduceLT, Nat.reduceLeDiff, Nat.reduceEqDiff, Nat.reduceAdd, Nat.reduceSub, Nat.reduceMul, Int.reduceLT, Int.reduceLE, Int.reduceEq, Int.reduceToNat, Int.reduceAdd, Int.reduceSub, Int.reduceNeg, List.reduceReplicate, Nat.reducePow, Int.reduceMul]
    have t1 := t.put (s' := { s with wrap := false }) (l := tmBox { s with wrap := false } q tq od m pr d1 d2 d3) rfl rfl rfl rfl rfl
    refine gup_K t1.cells ok.g ok.tb ok.b fun T' p hp hc k => ?_
    have hb' := k.at t1.box (by simp)
    unfold tmBox at hb'
    simp -implicitDefEqProofs -dsimp only [tb_at, tb_all hb', eq_true c1', vcS, ↓vcP1, ↓vcP2, ↓reduceIte, reduceCtorEq, Nat.reduceLT, Nat.reduceLeDiff, Nat.reduceEqDiff, Nat.reduceAdd, Nat.reduceSub, Nat.reduceMul, Int.reduceLT, Int.reduceLE, Int.reduceEq, Int.reduceToNat, Int.reduceAdd, Int.reduceSub, Int.reduceNeg, List.reduceReplicate, Nat.reducePow, Int.reduceMul]
    have l1 := k.1
    simp only [List.length_set] at l1 hp
    have t2 := t1.grid k (by simp; exact k0.1) (by simpa using hp) (s' := { s with wrap := false, cells := upF s.cells s.cols s.top s.bot 1 }) (l := tmBox { s with wrap := false, cells := upF s.cells s.cols s.top s.bot 1 } p tq od m pr d1 d2 d3) rfl hc rfl rfl rfl
    have hl := upF_len (n := 1) ok.g ok.b ok.tb
    unfold tmBox at t2
    simp only [hl] at t2
    exact ⟨by simpa using l1, hK _ (by simpa using l1) (.mk (((k0.put t.no _).new k (by simp)).put t.no _) pa t2)⟩
  · have c1' : ¬ (s.y : Int) = s.bot := by omega
    have ry := ok.g.r
    have w1 : IntKind.i64.wrap ((s.rows : Int) - 1) = (s.rows : Int) - 1 := wI64 (by omega) (by omega)
    rcases Decidable.em (s.y + 1 < s.rows) with c2 | c2
    · have c2' : (s.y : Int) < (s.rows : Int) - 1 := by omega
      have w2 : IntKind.i64.wrap ((s.y : Int) + 1) = ((s.y + 1 : Nat) : Int) := by rw [wI64 (by omega) (by omega)]; omega
      have e : nextF s = { s with wrap := false, y := s.y + 1 } := by unfold nextF; rw [if_neg c1, if_pos c2]
      rw [e] at hK
      simp -implicitDefEqProofs -dsimp only [tb_at, tb_all hb, c1', w1, c2', w2, List.set_set, vcS, ↓vcP1, ↓vcP2, ↓reduceIte, reduceCtorEq, Nat.reduceLT, Nat.reduceLeDiff, Nat.reduceEqDiff, Nat.reduceAdd, Nat.reduceSub, Nat.reduceMul, Int.reduceLT, Int.reduceLE, Int.reduceEq, Int.reduceToNat, Int.reduceAdd, Int.reduceSub, Int.reduceNeg, List.reduceReplicate, Nat.reducePow, Int.reduceMul]
      exact ⟨by simp, hK _ (by simp) (.mk (k0.put t.no _) pa (t.put rfl rfl rfl rfl rfl))⟩
    · have c2' : ¬ (s.y : Int) < (s.rows : Int) - 1 := by omega
      have e : nextF s = { s with wrap := false } := by unfold nextF; rw [if_neg c1, if_neg c2]
      rw [e] at hK
      simp -implicitDefEqProofs -dsimp only [tb_at, tb_all hb, c1', w1, c2', vcS, ↓vcP1, ↓vcP2, ↓reduceIte, reduceCtorEq, Nat.reduceLT, Nat.reduceLeDiff, Nat.reduceEqDiff, Nat.reduceAdd, Nat.reduceSub, Nat.reduceMul, Int.reduceLT, Int.reduceLE, Int.reduceEq, Int.reduceToNat, Int.reduceAdd, Int.reduceSub, Int.reduceNeg, List.reduceReplicate, Nat.reducePow, Int.reduceMul]
      exact ⟨by simp, hK _ (by simp) (.mk (k0.put t.no _) pa (t.put rfl rfl rfl rfl rfl))⟩
noncomputable def rc_tto : RFn := ⟨3, 32, .regD (.take ⟨some 6, .mov (.t 0), none, false⟩ [] (.take ⟨some 7, .mov (.t 0), none, false⟩ [] (.take ⟨some 8, .mov (.t 1), none, false⟩ [] (.take ⟨some 9, .mm true (.t 8) (.c (.int .i64 0)), none, false⟩ [] (.take ⟨some 10, .mov (.t 0), none, false⟩ [] (.take ⟨some 11, .nilck (.t 10), none, false⟩ [] (.take ⟨some 12, .faddr 0 (.t 11), none, false⟩ [] (.take ⟨some 13, .faddr 0 (.t 12), none, false⟩ [] (.take ⟨some 14, .load false 1 (.t 13), none, false⟩ [] (.take ⟨some 15, .bin .sub (.t 14) (.c (.int .i64 1)), none, false⟩ [] (.take ⟨some 16, .mm false (.t 9) (.t 15), none, false⟩ [] (.take ⟨some 17, .mov (.t 2), none, false⟩ [] (.take ⟨some 18, .mm true (.t 17) (.c (.int .i64 0)), none, false⟩ [] (.take ⟨some 19, .mov (.t 0), none, false⟩ [] (.take ⟨some 20, .nilck (.t 19), none, false⟩ [] (.take ⟨some 21, .faddr 0 (.t 20), none, false⟩ [] (.take ⟨some 22, .faddr 1 (.t 21), none, false⟩ [] (.take ⟨some 23, .load false 1 (.t 22), none, false⟩ [] (.take ⟨some 24, .bin .sub (.t 23) (.c (.int .i64 1)), none, false⟩ [] (.take ⟨some 25, .mm false (.t 18) (.t 24), none, false⟩ [] (.take ⟨some 26, .nilck (.t 6), none, false⟩ [] (.take ⟨some 27, .faddr 0 (.t 26), none, false⟩ [] (.take ⟨some 28, .faddr 3 (.t 27), none, false⟩ [] (.op ⟨none, .store 1 (.t 28) (.t 16), none, false⟩ (.take ⟨some 29, .nilck (.t 7), none, false⟩ [] (.take ⟨some 30, .faddr 0 (.t 29), none, false⟩ [] (.take ⟨some 31, .faddr 4 (.t 30), none, false⟩ [] (.op ⟨none, .store 1 (.t 31) (.t 25), none, false⟩ .done)))))))))))))))))))))))))))) 0 [], []⟩
theorem rc_tto_ok : compFn PG.P [⟨0, 0, [], []⟩] 58 = some rc_tto := by kernel_rfl
noncomputable def rc_tctl_l0 : RC := (.seq (.seq (.regD (.take ⟨some 29, .mov (.t 0), none, false⟩ [] (.take ⟨some 30, .nilck (.t 29), none, false⟩ [] (.take ⟨some 31, .faddr 0 (.t 30), none, false⟩ [] (.take ⟨some 32, .faddr 4 (.t 31), none, false⟩ [] (.take ⟨some 33, .load false 1 (.t 32), none, false⟩ [] (.take ⟨some 34, .mov (.t 0), none, false⟩ [] (.take ⟨some 35, .nilck (.t 34), none, false⟩ [] (.take ⟨some 36, .faddr 0 (.t 35), none, false⟩ [] (.take ⟨some 37, .faddr 1 (.t 36), none, false⟩ [] (.take ⟨some 38, .load false 1 (.t 37), none, false⟩ [] (.take ⟨some 39, .bin .sub (.t 38) (.c (.int .i64 1)), none, false⟩ [] (.take ⟨some 40, .bin .lss (.t 33) (.t 39), none, false⟩ [] (.take ⟨some 41, .mov (.t 40), none, false⟩ [] (.take ⟨some 42, .mov (.t 0), some (41, true), false⟩ [] (.take ⟨some 43, .nilck (.t 42), some (41, true), false⟩ [] (.take ⟨some 44, .faddr 0 (.t 43), some (41, true), false⟩ [] (.take ⟨some 45, .faddr 4 (.t 44), some (41, true), false⟩ [] (.take ⟨some 46, .load false 1 (.t 45), some (41, true), false⟩ [] (.take ⟨some 47, .mov (.t 0), some (41, true), false⟩ [] (.take ⟨some 48, .nilck (.t 47), some (41, true), false⟩ [] (.take ⟨some 49, .faddr 0 (.t 48), some (41, true), false⟩ [] (.take ⟨some 50, .faddr 9 (.t 49), some (41, true), false⟩ [] (.take ⟨some 51, .load false 1 (.t 50), some (41, true), false⟩ [] (.take ⟨some 52, .len (.t 51), some (41, true), false⟩ [] (.take ⟨some 53, .bin .lss (.t 46) (.t 52), some (41, true), false⟩ [] (.take ⟨some 54, .pick (.t 41) (.t 53) (.c (.bool false)), none, false⟩ [] (.take ⟨some 55, .mov (.t 54), none, false⟩ [] (.take ⟨some 56, .mov (.t 0), some (55, true), false⟩ [] (.take ⟨some 57, .nilck (.t 56), some (55, true), false⟩ [] (.take ⟨some 58, .faddr 0 (.t 57), some (55, true), false⟩ [] (.take ⟨some 59, .faddr 9 (.t 58), some (55, true), false⟩ [] (.take ⟨some 60, .load false 1 (.t 59), some (55, true), false⟩ [] (.take ⟨some 61, .mov (.t 0), some (55, true), false⟩ [] (.take ⟨some 62, .nilck (.t 61), some (55, true), false⟩ [] (.take ⟨some 63, .faddr 0 (.t 62), some (55, true), false⟩ [] (.take ⟨some 64, .faddr 4 (.t 63), some (55, true), false⟩ [] (.take ⟨some 65, .load false 1 (.t 64), some (55, true), false⟩ [] (.take ⟨some 66, .iaddr 1 (.t 60) (.t 65), some (55, true), false⟩ [] (.take ⟨some 67, .load false 1 (.t 66), some (55, true), false⟩ [] (.take ⟨some 68, .un .not (.t 67), some (55, true), false⟩ [] (.take ⟨some 69, .pick (.t 55) (.t 68) (.c (.bool false)), none, false⟩ [] .done))))))))))))))))))))))))))))))))))))))))) 0 [0, 69]) (.cond (.t 69) .skip (.ext 1))) (.seq (.blk 2 .skip) (.reg [⟨some 70, .mov (.t 0), none, false⟩, ⟨some 71, .nilck (.t 70), none, false⟩, ⟨some 72, .faddr 0 (.t 71), none, false⟩, ⟨some 73, .faddr 4 (.t 72), none, false⟩, ⟨some 74, .load false 1 (.t 73), none, false⟩, ⟨some 75, .bin .add (.t 74) (.c (.int .i64 1)), none, false⟩, ⟨some 76, .nilck (.t 70), none, false⟩, ⟨some 77, .faddr 0 (.t 76), none, false⟩, ⟨some 78, .faddr 4 (.t 77), none, false⟩, ⟨none, .store 1 (.t 78) (.t 75), none, false⟩] 0 [0])))
noncomputable def rc_tctl : RFn := ⟨2, 111, .seq (.seq (.reg [⟨some 4, .mov (.t 1), none, false⟩] 0 [0, 4]) (.blk 0 (.seq (.reg [⟨some 6, .bin .eql (.t 4) (.c (.int .u8 8)), none, false⟩, ⟨some 5, .mov (.t 6), none, false⟩] 0 [0, 4, 5]) (.cond (.t 5) (.reg [⟨some 7, .mov (.t 0), none, false⟩, ⟨some 8, .mov (.t 0), none, false⟩, ⟨some 9, .nilck (.t 8), none, false⟩, ⟨some 10, .faddr 0 (.t 9), none, false⟩, ⟨some 11, .faddr 4 (.t 10), none, false⟩, ⟨some 12, .load false 1 (.t 11), none, false⟩, ⟨some 13, .bin .sub (.t 12) (.c (.int .i64 1)), none, false⟩, ⟨some 14, .mm true (.t 13) (.c (.int .i64 0)), none, false⟩, ⟨some 15, .nilck (.t 7), none, false⟩, ⟨some 16, .faddr 0 (.t 15), none, false⟩, ⟨some 17, .faddr 4 (.t 16), none, false⟩, ⟨none, .store 1 (.t 17) (.t 14), none, false⟩] 0 [0]) (.seq (.reg [⟨some 19, .bin .eql (.t 4) (.c (.int .u8 9)), none, false⟩, ⟨some 18, .mov (.t 19), none, false⟩] 0 [0, 4, 18]) (.cond (.t 18) (.seq (.seq (.reg [⟨some 20, .mov (.t 0), none, false⟩, ⟨some 21, .nilck (.t 20), none, false⟩, ⟨some 22, .faddr 0 (.t 21), none, false⟩, ⟨some 23, .faddr 4 (.t 22), none, false⟩, ⟨some 24, .load false 1 (.t 23), none, false⟩, ⟨some 25, .bin .add (.t 24) (.c (.int .i64 1)), none, false⟩, ⟨some 26, .nilck (.t 20), none, false⟩, ⟨some 27, .faddr 0 (.t 26), none, false⟩, ⟨some 28, .faddr 4 (.t 27), none, false⟩, ⟨none, .store 1 (.t 28) (.t 25), none, false⟩] 0 [0]) (.blk 1 (.loop rc_tctl_l0))) (.regD (.take ⟨some 79, .mov (.t 0), none, false⟩ [] (.take ⟨some 80, .mov (.t 0), none, false⟩ [] (.take ⟨some 81, .nilck (.t 80), none, false⟩ [] (.take ⟨some 82, .faddr 0 (.t 81), none, false⟩ [] (.take ⟨some 83, .faddr 4 (.t 82), none, false⟩ [] (.take ⟨some 84, .load false 1 (.t 83), none, false⟩ [] (.take ⟨some 85, .mov (.t 0), none, false⟩ [] (.take ⟨some 86, .nilck (.t 85), none, false⟩ [] (.take ⟨some 87, .faddr 0 (.t 86), none, false⟩ [] (.take ⟨some 88, .faddr 1 (.t 87), none, false⟩ [] (.take ⟨some 89, .load false 1 (.t 88), none, false⟩ [] (.take ⟨some 90, .bin .sub (.t 89) (.c (.int .i64 1)), none, false⟩ [] (.take ⟨some 91, .mm false (.t 84) (.t 90), none, false⟩ [] (.take ⟨some 92, .nilck (.t 79), none, false⟩ [] (.take ⟨some 93, .faddr 0 (.t 92), none, false⟩ [] (.take ⟨some 94, .faddr 4 (.t 93), none, false⟩ [] (.op ⟨none, .store 1 (.t 94) (.t 91), none, false⟩ .done))))))))))))))))) 0 [0])) (.seq (.seq (.reg [⟨some 96, .bin .eql (.t 4) (.c (.int .u8 10)), none, false⟩, ⟨some 95, .mov (.t 96), none, false⟩] 0 [0, 4, 95]) (.cond (.t 95) .skip (.seq (.reg [⟨some 97, .bin .eql (.t 4) (.c (.int .u8 11)), none, false⟩, ⟨some 95, .mov (.t 97), none, false⟩] 0 [0, 4, 95]) (.cond (.t 95) .skip (.reg [⟨some 98, .bin .eql (.t 4) (.c (.int .u8 12)), none, false⟩, ⟨some 95, .mov (.t 98), none, false⟩] 0 [0, 4, 95]))))) (.cond (.t 95) (.reg [⟨some 99, .mov (.t 0), none, false⟩, ⟨some 100, .call 55 [.t 99], none, false⟩] 0 [0]) (.seq (.reg [⟨some 102, .bin .eql (.t 4) (.c (.int .u8 13)), none, false⟩, ⟨some 101, .mov (.t 102), none, false⟩] 0 [0, 101]) (.cond (.t 101) (.reg [⟨some 103, .mov (.t 0), none, false⟩, ⟨some 104, .nilck (.t 103), none, false⟩, ⟨some 105, .faddr 0 (.t 104), none, false⟩, ⟨some 106, .faddr 4 (.t 105), none, false⟩, ⟨none, .store 1 (.t 106) (.c (.int .i64 0)), none, false⟩] 0 [0]) .ret)))))))))) (.reg [⟨some 107, .mov (.t 0), none, false⟩, ⟨some 108, .nilck (.t 107), none, false⟩, ⟨some 109, .faddr 0 (.t 108), none, false⟩, ⟨some 110, .faddr 5 (.t 109), none, false⟩, ⟨none, .store 1 (.t 110) (.c (.bool false)), none, false⟩] 0 []), []⟩
theorem rc_tctl_ok : compFn PG.P [⟨0, 0, [0, 4], []⟩, ⟨1, 0, [0, 4, 5], []⟩, ⟨2, 0, [0], []⟩, ⟨3, 0, [0, 4, 18], []⟩, ⟨4, 0, [0], []⟩, ⟨5, 0, [0, 69], []⟩, ⟨6, 0, [0], []⟩, ⟨7, 0, [0], []⟩, ⟨8, 0, [0, 4, 95], []⟩, ⟨9, 0, [0, 4, 95], []⟩, ⟨10, 0, [0, 4, 95], []⟩, ⟨11, 0, [0], []⟩, ⟨12, 0, [0, 101], []⟩, ⟨13, 0, [0], []⟩, ⟨14, 0, [], []⟩] 32 = some rc_tctl := by kernel_rfl
def toP (s : Sc) (y x : Int) : Sc := { s with y := min y.toNat (s.rows - 1), x := min x.toNat (s.cols - 1) }
theorem tto_B {T : Objs} {o q tq : Nat} {s : Sc} {od : DV} {m pr : Int} {d1 d2 d3 : DV} {y x : Int} {K : DV → Objs → Prop} (hr : 1 ≤ s.rows ∧ s.rows ≤ 1000) (hc : 1 ≤ s.cols ∧ s.cols ≤ 1000) (hb : T[o]? = some (some (.box (tmBox s q tq od m pr d1 d2 d3))))
    (kk : K (.tup []) (T.set o (some (.box (tmBox (toP s y x) q tq od m pr d1 d2 d3))))) : CallK PG 58 [.ptr o 0 0, .int .i64 y, .int .i64 x] T K := by
  unfold tmBox at hb
  refine CallK.of_fn FOk.nil rc_tto_ok (by simp [rc_tto]) ?_
  unfold rc_tto
  dsimp only
  have w1 : IntKind.i64.wrap ((s.rows : Int) - 1) = ((s.rows - 1 : Nat) : Int) := by rw [wI64 (by omega) (by omega)]; omega
  have w2 : IntKind.i64.wrap ((s.cols : Int) - 1) = ((s.cols - 1 : Nat) : Int) := by rw [wI64 (by omega) (by omega)]; omega
  have e1 : min (max y 0) ((s.rows - 1 : Nat) : Int) = ((min y.toNat (s.rows - 1) : Nat) : Int) := by omega
  have e2 : min (max x 0) ((s.cols - 1 : Nat) : Int) = ((min x.toNat (s.cols - 1) : Nat) : Int) := by omega
  simp -implicitDefEqProofs -dsimp only [tb_at, tb_all hb, w1, w2, e1, e2, List.set_set, vcS, ↓vcP1, ↓vcP2, ↓reduceIte, reduceCtorEq, Nat.reduceLT, Nat.reduceLeDiff, Nat.reduceEqDiff, Nat.reduceAdd, Nat.reduceSub, Nat.reduceMul, Int.reduceLT, Int.reduceLE, Int.reduceEq, Int.reduceToNat, Int.reduceAdd, Int.reduceSub, Int.reduceNeg, List.reduceReplicate, Nat.reducePow, Int.reduceMul]
  repeat' (first | exact kk | (simp; done) | apply And.intro)
theorem tto_K {T0 T : Objs} {o : Nat} {s : Sc} {p : Pa} {y x : Int} {K : DV → Objs → Prop} (hr : 1 ≤ s.rows ∧ s.rows ≤ 1000) (hc : 1 ≤ s.cols ∧ s.cols ≤ 1000) (h : TermAt T0 T o s p) (hK : ∀ T', T.length ≤ T'.length → TermAt T0 T' o (toP s y x) p → K (.tup []) T') :
    CallK PG 58 [.ptr o 0 0, .int .i64 y, .int .i64 x] T K := by
  obtain ⟨k0, q, tq, od, m, pr, d1, d2, d3, pa, t⟩ := h
  exact tto_B hr hc t.box (hK _ (by simp) (.mk (k0.put t.no _) pa (t.put rfl rfl rfl rfl rfl)))
theorem tabN_more {t : List Bool} {c : Nat} : ∀ (f x : Nat), c - x ≤ f → tabN t c f x = tabN t c (c - x) x
  | 0, x, h => by rw [Nat.le_zero.1 h]
  | f + 1, x, h => by
    rcases Decidable.em (x + 1 < c ∧ t.getD x false = false) with hx | hx
    · have e : c - x = (c - (x + 1)) + 1 := by omega
      rw [e]
      simp only [tabN, if_pos hx]
      rw [tabN_more f (x + 1) (by omega)]
    · rcases Nat.eq_zero_or_pos (c - x) with h0 | h0
      · rw [h0]; simp only [tabN, if_neg hx]
      · obtain ⟨k, hk⟩ : ∃ k, c - x = k + 1 := ⟨c - x - 1, by omega⟩
        rw [hk]; simp only [tabN, if_neg hx]
theorem tabN_go {t : List Bool} {c x : Nat} (h : x + 1 < c) (ht : t.getD x false = false) : tabN t c c x = tabN t c c (x + 1) := by
  rw [tabN_more c x (by omega), tabN_more c (x + 1) (by omega)]
  have e : c - x = (c - (x + 1)) + 1 := by omega
  rw [e]
  simp only [tabN, if_pos (show x + 1 < c ∧ t.getD x false = false from ⟨h, ht⟩)]
theorem tabN_no {t : List Bool} {c x : Nat} (h : ¬ (x + 1 < c ∧ t.getD x false = false)) : tabN t c c x = x := by
  cases c with
  | zero => rfl
  | succ c => simp only [tabN, if_neg h]
theorem tctl_K {T0 T : Objs} {o : Nat} {s : Sc} {p : Pa} {b : Int} {K : DV → Objs → Prop} (ok : ScOk s) (h : TermAt T0 T o s p) (hK : ∀ T', T.length ≤ T'.length → TermAt T0 T' o (ctlF s b) p → K (.tup []) T') : CallK PG 32 [.ptr o 0 0, .int .u8 b] T K := by
  obtain ⟨k0, q, tq, od, m, pr, d1, d2, d3, pa, t⟩ := id h
  have hb := t.box
  unfold tmBox at hb
  have hr := ok.g.r
  have hc := ok.g.c
  have hy := ok.y
  have hx := ok.x
  refine CallK.of_fn FOk.nil rc_tctl_ok (by simp [rc_tctl]) ?_
  unfold rc_tctl
  dsimp only
  unfold ctlF at hK
  rcases Decidable.em (b = 8) with b1 | b1
  · rw [if_pos b1] at hK
    have w1 : max (IntKind.i64.wrap ((s.x : Int) - 1)) 0 = ((s.x - 1 : Nat) : Int) := by rw [wI64 (by omega) (by omega)]; omega
    simp -implicitDefEqProofs -dsimp only [tb_at, tb_all hb, eq_true b1, w1, List.set_set, vcS, ↓vcP1, ↓vcP2, ↓reduceIte, reduceCtorEq, Nat.reduceLT, Nat.reduceLeDiff, Nat.reduceEqDiff, Nat.reduceAdd, Nat.reduceSub, Nat.reduceMul, Int.reduceLT, Int.reduceLE, Int.reduceEq, Int.reduceToNat, Int.reduceAdd, Int.reduceSub, Int.reduceNeg, List.reduceReplicate, Nat.reducePow, Int.reduceMul]
    exact ⟨by simp, hK _ (by simp) (.mk (k0.put t.no _) pa (t.put rfl rfl rfl rfl rfl))⟩
  rw [if_neg b1] at hK
  rcases Decidable.em (b = 9) with b2 | b2
  · rw [if_pos b2] at hK
    have w1 : IntKind.i64.wrap ((s.x : Int) + 1) = ((s.x + 1 : Nat) : Int) := by rw [wI64 (by omega) (by omega)]; omega
    have w2 : IntKind.i64.wrap ((s.cols : Int) - 1) = ((s.cols - 1 : Nat) : Int) := by rw [wI64 (by omega) (by omega)]; omega
    simp -implicitDefEqProofs -dsimp only [tb_at, tb_all hb, eq_false b1, eq_true b2, w1, w2, List.set_set, vcS, ↓vcP1, ↓vcP2, ↓reduceIte, reduceCtorEq, Nat.reduceLT, Nat.reduceLeDiff, Nat.reduceEqDiff, Nat.reduceAdd, Nat.reduceSub, Nat.reduceMul, Int.reduceLT, Int.reduceLE, Int.reduceEq, Int.reduceToNat, Int.reduceAdd, Int.reduceSub, Int.reduceNeg, List.reduceReplicate, Nat.reducePow, Int.reduceMul]
    refine LoopWp.inv FOk.nil (S := fun i : Nat => ⟨[(0, .ptr o 0 0)], T.set o (some (.box (tmBox { s with x := i } q tq od m pr d1 d2 d3)))⟩)
      (I := fun i => i ≤ s.cols ∧ tabN s.tabs s.cols s.cols i = tabN s.tabs s.cols s.cols (s.x + 1)) (μ := fun i => s.cols - i) (s.x + 1) ⟨by omega, rfl⟩ ?_ ?_
    · simp -implicitDefEqProofs -dsimp only [wkT_self, vcS, ↓vcP1, ↓vcP2, ↓reduceIte, reduceCtorEq, Nat.reduceLT, Nat.reduceLeDiff, Nat.reduceEqDiff, Nat.reduceAdd, Nat.reduceSub, Nat.reduceMul, Int.reduceLT, Int.reduceLE, Int.reduceEq, Int.reduceToNat, Int.reduceAdd, Int.reduceSub, Int.reduceNeg, List.reduceReplicate, Nat.reducePow, Int.reduceMul]
      exact objsWk_refl _
    · intro i ⟨hi, hn⟩
      unfold rc_tctl_l0
      have ti := t.put (s' := { s with x := i }) (l := tmBox { s with x := i } q tq od m pr d1 d2 d3) rfl rfl rfl rfl rfl
      have hbi := ti.box
      have hti := ti.tabs
      unfold tmBox at hbi hti ⊢
      dsimp only at hbi hti ⊢
      have i0 : (0 : Int) ≤ i := by omega
      have fin : i ≤ s.cols → tabN s.tabs s.cols s.cols i = i → ∀ T', T' = ((T.set o (some (.box (tmBox { s with x := i } q tq od m pr d1 d2 d3)))).set o (some (.box (tmBox { s with x := min i (s.cols - 1) } q tq od m pr d1 d2 d3)))).set o (some (.box (tmBox { s with x := min i (s.cols - 1), wrap := false } q tq od m pr d1 d2 d3))) → K (.tup []) T' := fun _ e T' eT => by
        subst eT
        refine hK _ (by simp) ?_
        rw [← hn, e]
        rw [List.set_set, List.set_set]
        exact .mk (k0.put t.no _) pa (t.put rfl rfl rfl rfl rfl)
      have m1 : min (i : Int) ((s.cols - 1 : Nat) : Int) = ((min i (s.cols - 1) : Nat) : Int) := by omega
      have w3 : IntKind.i64.wrap ((i : Int) + 1) = ((i + 1 : Nat) : Int) := by rw [wI64 (by omega) (by omega)]; omega
      rcases Decidable.em (i + 1 < s.cols) with h1 | h1
      · have h1' : (i : Int) < ((s.cols - 1 : Nat) : Int) := by omega
        have h2' : (i : Int) < (s.tabs.length : Int) := by rw [ok.tabs]; omega
        have hg := boRows_get (L := s.tabs) (i := i) (by rw [ok.tabs]; omega)
        cases h3 : s.tabs.getD i false with
        | true =>
          rw [h3] at hg
          simp -implicitDefEqProofs -dsimp only [tb_at, tb_all hbi, tb_all hti, i0, w2, h1', h2', hg, boRows_len, m1, Nat.zero_add, vcS, ↓vcP1, ↓vcP2, ↓reduceIte, reduceCtorEq, Nat.reduceLT, Nat.reduceLeDiff, Nat.reduceEqDiff, Nat.reduceAdd, Nat.reduceSub, Nat.reduceMul, Int.reduceLT, Int.reduceLE, Int.reduceEq, Int.reduceToNat, Int.reduceAdd, Int.reduceSub, Int.reduceNeg, List.reduceReplicate, Nat.reducePow, Int.reduceMul]
          exact ⟨by simp, fin hi (tabN_no (by simp only [h3]; simp)) _ rfl⟩
        | false =>
          rw [h3] at hg
          simp -implicitDefEqProofs -dsimp only [tb_at, tb_all hbi, tb_all hti, i0, w2, w3, h1', h2', hg, boRows_len, m1, Nat.zero_add, wkT_self, List.set_set, vcS, ↓vcP1, ↓vcP2, ↓reduceIte, reduceCtorEq, Nat.reduceLT, Nat.reduceLeDiff, Nat.reduceEqDiff, Nat.reduceAdd, Nat.reduceSub, Nat.reduceMul, Int.reduceLT, Int.reduceLE, Int.reduceEq, Int.reduceToNat, Int.reduceAdd, Int.reduceSub, Int.reduceNeg, List.reduceReplicate, Nat.reducePow, Int.reduceMul]
          exact ⟨i + 1, objsWk_refl _, ⟨by omega, by rw [← hn]; exact (tabN_go h1 h3).symm⟩, by omega⟩
      · have h1' : ¬ (i : Int) < ((s.cols - 1 : Nat) : Int) := by omega
        simp -implicitDefEqProofs -dsimp only [tb_at, tb_all hbi, tb_all hti, i0, w2, h1', m1, Nat.zero_add, vcS, ↓vcP1, ↓vcP2, ↓reduceIte, reduceCtorEq, Nat.reduceLT, Nat.reduceLeDiff, Nat.reduceEqDiff, Nat.reduceAdd, Nat.reduceSub, Nat.reduceMul, Int.reduceLT, Int.reduceLE, Int.reduceEq, Int.reduceToNat, Int.reduceAdd, Int.reduceSub, Int.reduceNeg, List.reduceReplicate, Nat.reducePow, Int.reduceMul]
        exact ⟨by simp, fin hi (tabN_no (by omega)) _ rfl⟩
  rw [if_neg b2] at hK
  rcases Decidable.em (b = 10 ∨ b = 11 ∨ b = 12) with b3 | b3
  · rw [if_pos b3] at hK
    have hw := (nextF_ok ok).2.2.2.2.1
    have ew : { nextF s with wrap := false } = nextF s := by
      generalize nextF s = n at hw ⊢
      cases n
      simp only at hw
      subst hw
      rfl
    rcases b3 with rfl | rfl | rfl
    all_goals
      simp -implicitDefEqProofs -dsimp only [tb_at, vcS, ↓vcP1, ↓vcP2, ↓reduceIte, reduceCtorEq, Nat.reduceLT, Nat.reduceLeDiff, Nat.reduceEqDiff, Nat.reduceAdd, Nat.reduceSub, Nat.reduceMul, Int.reduceLT, Int.reduceLE, Int.reduceEq, Int.reduceToNat, Int.reduceAdd, Int.reduceSub, Int.reduceNeg, List.reduceReplicate, Nat.reducePow, Int.reduceMul]
      refine tnext_K ok h fun T' l t' => ?_
      obtain ⟨k1, q', tq', od', m', pr', e1, e2, e3, pa', t2⟩ := t'
      have hb2 := t2.box
      unfold tmBox at hb2
      simp -implicitDefEqProofs -dsimp only [tb_at, tb_all hb2, vcS, ↓vcP1, ↓vcP2, ↓reduceIte, reduceCtorEq, Nat.reduceLT, Nat.reduceLeDiff, Nat.reduceEqDiff, Nat.reduceAdd, Nat.reduceSub, Nat.reduceMul, Int.reduceLT, Int.reduceLE, Int.reduceEq, Int.reduceToNat, Int.reduceAdd, Int.reduceSub, Int.reduceNeg, List.reduceReplicate, Nat.reducePow, Int.reduceMul]
      refine ⟨by simpa using l, hK _ (by simpa using l) ?_⟩
      rw [← ew]
      exact .mk (k1.put t2.no _) pa' (t2.put rfl rfl rfl rfl rfl)
  rw [if_neg b3] at hK
  have b31 : ¬ b = 10 := by omega
  have b32 : ¬ b = 11 := by omega
  have b33 : ¬ b = 12 := by omega
  rcases Decidable.em (b = 13) with b4 | b4
  · rw [if_pos b4] at hK
    simp -implicitDefEqProofs -dsimp only [tb_at, tb_all hb, eq_false b1, eq_false b2, eq_false b31, eq_false b32, eq_false b33, eq_true b4, List.set_set, vcS, ↓vcP1, ↓vcP2, ↓reduceIte, reduceCtorEq, Nat.reduceLT, Nat.reduceLeDiff, Nat.reduceEqDiff, Nat.reduceAdd, Nat.reduceSub, Nat.reduceMul, Int.reduceLT, Int.reduceLE, Int.reduceEq, Int.reduceToNat, Int.reduceAdd, Int.reduceSub, Int.reduceNeg, List.reduceReplicate, Nat.reducePow, Int.reduceMul]
    exact ⟨by simp, hK _ (by simp) (.mk (k0.put t.no _) pa (t.put rfl rfl rfl rfl rfl))⟩
  · rw [if_neg b4] at hK
    simp -implicitDefEqProofs -dsimp only [tb_at, tb_all hb, eq_false b1, eq_false b2, eq_false b31, eq_false b32, eq_false b33, eq_false b4, List.set_set, vcS, ↓vcP1, ↓vcP2, ↓reduceIte, reduceCtorEq, Nat.reduceLT, Nat.reduceLeDiff, Nat.reduceEqDiff, Nat.reduceAdd, Nat.reduceSub, Nat.reduceMul, Int.reduceLT, Int.reduceLE, Int.reduceEq, Int.reduceToNat, Int.reduceAdd, Int.reduceSub, Int.reduceNeg, List.reduceReplicate, Nat.reducePow, Int.reduceMul]
    exact hK _ (Nat.le_refl _) h
end Go.Proofs.YtjmnbpilnneonaaDoor
