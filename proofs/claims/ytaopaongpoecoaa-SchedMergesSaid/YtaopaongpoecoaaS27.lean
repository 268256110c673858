/- The seat's events: right ones. -/
import Derived.Test.YtaopaongpoecoaaS26
import Derived.Test.YtaopaongpoecoaaS22
set_option linter.unusedVariables false
set_option linter.unusedSimpArgs false
set_option maxRecDepth 10000
namespace Go.Proofs.Ytaopaongpoecoaa
open Go.RowKit
noncomputable def rc_sevents_l0 : RC := (.seq (.seq (.reg [⟨(some 9), (.mov (.t 7)), none, false⟩, ⟨(some 10), (.mov (.t 0)), none, false⟩, ⟨(some 11), (.len (.t 10)), none, false⟩, ⟨(some 12), (.bin .lss (.t 9) (.t 11)), none, false⟩] 0 [0, 1, 5, 6, 7, 12]) (.cond (.t 12) .skip (.ext 0))) (.seq (.blk 1 (.seq (.reg [⟨(some 15), (.mov (.t 6)), none, false⟩, ⟨(some 16), (.mov (.t 0)), none, false⟩, ⟨(some 17), (.mov (.t 7)), none, false⟩, ⟨(some 18), (.iaddr 1 (.t 16) (.t 17)), none, false⟩, ⟨(some 19), (.load false 1 (.t 18)), none, false⟩, ⟨(some 20), (.bin .rem (.t 19) (.c (.int .u8 3))), none, false⟩, ⟨(some 21), (.conv (.i2i .i64) (.t 20)), none, false⟩, ⟨(some 22), (.bin .add (.t 15) (.t 21)), none, false⟩, ⟨(some 6), (.mov (.t 22)), none, false⟩] 0 [0, 1, 5, 6, 7]) (.seq (.reg [⟨(some 23), (.mov (.t 6)), none, false⟩, ⟨(some 24), (.mov (.t 0)), none, false⟩, ⟨(some 25), (.mov (.t 7)), none, false⟩, ⟨(some 26), (.iaddr 1 (.t 24) (.t 25)), none, false⟩, ⟨(some 27), (.load false 1 (.t 26)), none, false⟩, ⟨(some 28), (.bin .quo (.t 27) (.c (.int .u8 3))), none, false⟩, ⟨(some 29), (.bin .rem (.t 28) (.c (.int .u8 3))), none, false⟩, ⟨(some 30), (.conv (.i2i .i64) (.t 29)), none, false⟩, ⟨(some 31), (.build [(.int .i64 0), (.int .i64 0), (.sl 0 [] .nil), (.int .i64 0), (.int .i64 0)] [(0, (1, (.t 23))), (1, (1, (.t 30)))]), none, false⟩, ⟨(some 8), (.alloc [(.int .i64 0), (.int .i64 0), (.sl 0 [] .nil), (.int .i64 0), (.int .i64 0)]), none, false⟩, ⟨none, (.store 5 (.t 8) (.t 31)), none, false⟩] 0 [0, 1, 5, 6, 7, 8]) (.seq (.seq (.reg [⟨(some 32), (.faddr 1 (.t 8)), none, false⟩, ⟨(some 33), (.load false 1 (.t 32)), none, false⟩] 0 [0, 1, 5, 6, 7, 8, 33]) (.blk 2 (.seq (.reg [⟨(some 53), (.bin .eql (.t 33) (.c (.int .i64 0))), none, false⟩, ⟨(some 52), (.mov (.t 53)), none, false⟩] 0 [0, 1, 5, 6, 7, 8, 33, 52]) (.cond (.t 52) (.reg [⟨(some 54), (.mov (.t 0)), none, false⟩, ⟨(some 55), (.mov (.t 7)), none, false⟩, ⟨(some 56), (.mov (.t 7)), none, false⟩, ⟨(some 57), (.bin .add (.t 56) (.c (.int .i64 1))), none, false⟩, ⟨(some 58), (.slice 1 (.t 54) (some (.t 55)) (some (.t 57)) none), none, false⟩, ⟨(some 59), (.call 21 [(.t 58)]), none, false⟩, ⟨(some 60), (.faddr 2 (.t 8)), none, false⟩, ⟨none, (.store 1 (.t 60) (.t 59)), none, false⟩] 0 [0, 1, 5, 6, 7, 8]) (.seq (.reg [⟨(some 62), (.bin .eql (.t 33) (.c (.int .i64 1))), none, false⟩, ⟨(some 61), (.mov (.t 62)), none, false⟩] 0 [0, 1, 5, 6, 7, 8, 61]) (.cond (.t 61) (.regD (.take ⟨(some 63), (.mov (.t 1)), none, false⟩ [] (.take ⟨(some 64), (.mov (.t 1)), none, false⟩ [] (.take ⟨(some 65), (.len (.t 64)), none, false⟩ [] (.take ⟨(some 66), (.mov (.t 0)), none, false⟩ [] (.take ⟨(some 67), (.mov (.t 7)), none, false⟩ [] (.take ⟨(some 68), (.iaddr 1 (.t 66) (.t 67)), none, false⟩ [] (.take ⟨(some 69), (.load false 1 (.t 68)), none, false⟩ [] (.take ⟨(some 70), (.bin .rem (.t 69) (.c (.int .u8 4))), none, false⟩ [] (.take ⟨(some 71), (.conv (.i2i .i64) (.t 70)), none, false⟩ [] (.take ⟨(some 72), (.mm false (.t 65) (.t 71)), none, false⟩ [] (.take ⟨(some 73), (.slice 1 (.t 63) none (some (.t 72)) none), none, false⟩ [] (.take ⟨(some 75), (.mov (.t 0)), none, false⟩ [] (.take ⟨(some 76), (.mov (.t 7)), none, false⟩ [] (.take ⟨(some 77), (.iaddr 1 (.t 75) (.t 76)), none, false⟩ [(.c (.sl 0 [] .nil))] (.take ⟨(some 78), (.load false 1 (.t 77)), none, false⟩ [(.c (.sl 0 [] .nil))] (.alt (.op ⟨(some 74), (.append 1 1 (.c (.sl 0 [] .nil)) (.t 73)), none, false⟩ (.op ⟨(some 79), (.mkrow 1 [(.int .u8 0)] 1 [(0, (.t 78))]), none, false⟩ (.op ⟨(some 80), (.append 1 1 (.t 74) (.t 79)), none, true⟩ (.op ⟨(some 81), (.call 22 [(.t 80)]), none, false⟩ (.take ⟨(some 82), (.faddr 2 (.t 8)), none, false⟩ [] (.op ⟨none, (.store 1 (.t 82) (.t 81)), none, false⟩ .done)))))) (.op ⟨(some 79), (.mkrow 1 [(.int .u8 0)] 1 [(0, (.t 78))]), none, false⟩ (.op ⟨(some 74), (.append 1 1 (.c (.sl 0 [] .nil)) (.t 73)), none, false⟩ (.op ⟨(some 80), (.append 1 1 (.t 74) (.t 79)), none, true⟩ (.op ⟨(some 81), (.call 22 [(.t 80)]), none, false⟩ (.take ⟨(some 82), (.faddr 2 (.t 8)), none, false⟩ [] (.op ⟨none, (.store 1 (.t 82) (.t 81)), none, false⟩ .done)))))))))))))))))))))) 0 [0, 1, 5, 6, 7, 8]) (.regD (.take ⟨(some 34), (.mov (.t 0)), none, false⟩ [] (.take ⟨(some 35), (.mov (.t 7)), none, false⟩ [] (.take ⟨(some 36), (.iaddr 1 (.t 34) (.t 35)), none, false⟩ [] (.take ⟨(some 37), (.load false 1 (.t 36)), none, false⟩ [] (.take ⟨(some 38), (.bin .quo (.t 37) (.c (.int .u8 9))), none, false⟩ [] (.take ⟨(some 39), (.bin .rem (.t 38) (.c (.int .u8 6))), none, false⟩ [] (.take ⟨(some 40), (.conv (.i2i .i64) (.t 39)), none, false⟩ [] (.take ⟨(some 41), (.bin .add (.t 40) (.c (.int .i64 1))), none, false⟩ [] (.take ⟨(some 42), (.mov (.t 0)), none, false⟩ [] (.take ⟨(some 43), (.mov (.t 7)), none, false⟩ [] (.take ⟨(some 50), (.faddr 3 (.t 8)), none, false⟩ [] (.take ⟨(some 44), (.iaddr 1 (.t 42) (.t 43)), none, false⟩ [(.t 50)] (.take ⟨(some 45), (.load false 1 (.t 44)), none, false⟩ [(.t 50)] (.take ⟨(some 46), (.bin .quo (.t 45) (.c (.int .u8 5))), none, false⟩ [] (.take ⟨(some 47), (.bin .rem (.t 46) (.c (.int .u8 9))), none, false⟩ [] (.take ⟨(some 48), (.conv (.i2i .i64) (.t 47)), none, false⟩ [] (.take ⟨(some 49), (.bin .add (.t 48) (.c (.int .i64 1))), none, false⟩ [] (.op ⟨none, (.store 1 (.t 50) (.t 41)), none, false⟩ (.take ⟨(some 51), (.faddr 4 (.t 8)), none, false⟩ [] (.op ⟨none, (.store 1 (.t 51) (.t 49)), none, false⟩ .done)))))))))))))))))))) 0 [0, 1, 5, 6, 7, 8]))))))) (.reg [⟨(some 83), (.mov (.t 5)), none, false⟩, ⟨(some 84), (.load true 5 (.t 8)), none, false⟩, ⟨(some 85), (.mkrow 5 [(.int .i64 0), (.int .i64 0), (.sl 0 [] .nil), (.int .i64 0), (.int .i64 0)] 1 [(0, (.t 84))]), none, false⟩, ⟨(some 86), (.append 5 56 (.t 83) (.t 85)), none, false⟩, ⟨(some 5), (.mov (.t 86)), none, false⟩] 0 [0, 1, 5, 6, 7]))))) (.reg [⟨(some 13), (.mov (.t 7)), none, false⟩, ⟨(some 14), (.bin .add (.t 13) (.c (.int .i64 1))), none, false⟩, ⟨(some 7), (.mov (.t 14)), none, false⟩] 0 [0, 1, 5, 6, 7])))
noncomputable def rc_sevents : RFn := ⟨2, 88, (.seq (.reg [⟨(some 4), (.mov (.c (.sl 0 [] .nil))), none, false⟩] 0 [0, 1]) (.seq (.reg [⟨(some 5), (.mov (.c (.sl 0 [] .nil))), none, false⟩] 0 [0, 1, 5]) (.seq (.reg [⟨(some 6), (.mov (.c (.int .i64 0))), none, false⟩] 0 [0, 1, 5, 6]) (.seq (.seq (.reg [⟨(some 7), (.mov (.c (.int .i64 0))), none, false⟩] 0 [0, 1, 5, 6, 7]) (.blk 0 (.loop rc_sevents_l0))) (.seq (.reg [⟨(some 87), (.mov (.t 5)), none, false⟩, ⟨(some 4), (.mov (.t 87)), none, false⟩] 0 [4]) .ret))))), [(.t 4)]⟩
theorem rc_sevents_ok : compFn PG.P [⟨0, 0, [0, 1], []⟩, ⟨1, 0, [0, 1, 5], []⟩, ⟨2, 0, [0, 1, 5, 6], []⟩, ⟨3, 0, [0, 1, 5, 6, 7], []⟩, ⟨4, 0, [0, 1, 5, 6, 7, 12], []⟩, ⟨5, 0, [0, 1, 5, 6, 7], []⟩, ⟨6, 0, [0, 1, 5, 6, 7], []⟩, ⟨7, 0, [0, 1, 5, 6, 7, 8], []⟩, ⟨8, 0, [0, 1, 5, 6, 7, 8, 33], []⟩, ⟨9, 0, [0, 1, 5, 6, 7, 8], []⟩, ⟨10, 0, [0, 1, 5, 6, 7, 8, 33, 52], []⟩, ⟨11, 0, [0, 1, 5, 6, 7, 8], []⟩, ⟨12, 0, [0, 1, 5, 6, 7, 8, 61], []⟩, ⟨13, 0, [0, 1, 5, 6, 7, 8], [80]⟩, ⟨14, 0, [0, 1, 5, 6, 7], []⟩, ⟨15, 0, [4], []⟩] 14 = some rc_sevents := by kernel_rfl
theorem u8_in {l : List Int} (h : inK .u8 l) : ∀ n ∈ l, 0 ≤ n ∧ n ≤ 255 := fun n hn => h.2 n hn
theorem sb_P {sz_l : Nat} {k_l : SK} {l : List Int} (hs_l : sz_l = 1 ∨ l = []) (hk_l : inK .u8 l) (hp : l.length ≤ 100) :
    PCalls PG 22 [.sl sz_l (intRows .u8 l) k_l] fun n RR OO => RR = ((.sl 1 (intRows .u8 (sbytesF l)) .any, []) : DV × Objs).1 ∧ OO = ((.sl 1 (intRows .u8 (sbytesF l)) .any, []) : DV × Objs).2 := sbytes_P hs_l (u8_in hk_l) hp
def F_sb : List DV → Option FSpec
  | [a_l] => some ⟨isInts .u8 a_l ∧ (intsD a_l).length ≤ 100, fun n => ((.sl 1 (intRows .u8 (sbytesF (intsD a_l))) .any, []))⟩
  | _ => none
theorem F_sb_1 (a_l : DV) : F_sb [a_l] = some ⟨isInts .u8 a_l ∧ (intsD a_l).length ≤ 100, fun n => ((.sl 1 (intRows .u8 (sbytesF (intsD a_l))) .any, []))⟩ := nrfl _
theorem sb_ok (args : List DV) (s : FSpec) (hs : F_sb args = some s) (hp : s.pre) : PCalls PG 22 args fun n r os => r = (s.res n).1 ∧ os = (s.res n).2 := by
  unfold F_sb at hs
  split at hs
  · rename_i a_l
    obtain rfl := Option.some.inj hs
    obtain ⟨hi_l, hp⟩ := hp
    obtain ⟨s0_l, k0_l, h1_l, h2_l, h3_l⟩ := isInts_inv hi_l
    have this := sb_P (k_l := k0_l) h2_l h3_l hp
    rw [← h1_l] at this
    exact this
  · cases hs

def TEv : FL := (22, F_sb) :: []
theorem TEv_ok : FOk PG (tab TEv) := FOk.cons (FOk.nil) sb_ok
theorem TEv_at_sb (args : List DV) : tab TEv 22 args = (F_sb args).map .o := nrfl _
theorem TEv_b : type_of% (And.intro @TEv_at_sb <| @F_sb_1) := And.intro @TEv_at_sb <| @F_sb_1

theorem TEv_n21 (args : List DV) : tab TEv 21 args = none := nrfl _
theorem TEv_l : type_of% (And.intro @TEv_b <| @TEv_n21) := And.intro @TEv_b <| @TEv_n21
theorem sbytesF_len (l : List Int) : (sbytesF l).length ≤ 20 * l.length := by
  induction l with
  | nil => simp [sbytesF]
  | cons a l ih =>
    have : (numsB (piecesB.getD (a % 69).toNat [])).length ≤ 20 := by
      rw [numsB_len]
      exact (by decide : ∀ s ∈ piecesB, s.length ≤ 20) (piecesB.getD (a % 69).toNat []) (by rw [List.getD_eq_getElem?_getD, List.getElem?_eq_getElem (by show _ < 69; omega)]; exact List.getElem_mem _)
    have e : sbytesF (a :: l) = numsB (piecesB.getD (a % 69).toNat []) ++ sbytesF l := by simp [sbytesF]
    rw [e, List.length_append, List.length_cons]; omega
/-- Events that are right so far. -/
structure EvsOk (es : List Ev) (t : Int) (n : Nat) : Prop where
  len : es.length = n
  ord : es.Pairwise fun a b => a.tick ≤ b.tick
  le : ∀ e ∈ es, e.tick ≤ t
  dat : ∀ e ∈ es, e.data.length ≤ 30
  t0 : 0 ≤ t ∧ t ≤ 2 * n
theorem EvsOk.more {es : List Ev} {t t' : Int} {n : Nat} {e : Ev} (h : EvsOk es t n) (ht : t ≤ t' ∧ t' ≤ t + 2) (he : e.tick = t') (hd : e.data.length ≤ 30) : EvsOk (es ++ [e]) t' (n + 1) := by
  refine ⟨by simp [h.len], ?_, fun x hx => ?_, fun x hx => ?_, by have := h.t0; omega⟩
  · rw [List.pairwise_append]
    exact ⟨h.ord, by simp, fun a ha b hb => by
      have := h.le a ha
      simp at hb; subst hb; omega⟩
  · rcases List.mem_append.1 hx with h1 | h1
    · have := h.le x h1; omega
    · simp at h1; subst h1; omega
  · rcases List.mem_append.1 hx with h1 | h1
    · exact h.dat x h1
    · simp at h1; subst h1; exact hd
theorem ev_row (e : Ev) {R : DV → DV → Prop} (hR : ∀ d, R d d) {d : DV} (hd : R d (.sl 1 (intRows .u8 e.data) .any)) : frRow R [.int .i64 e.tick, .int .i64 e.kind, d, .int .i64 e.rows, .int .i64 e.cols] (evRow e) := by
  refine ⟨rfl, fun j c' hj => ?_⟩
  match j with
  | 0 => exact ⟨_, rfl, by simp [evRow] at hj; subst hj; exact hR _⟩
  | 1 => exact ⟨_, rfl, by simp [evRow] at hj; subst hj; exact hR _⟩
  | 2 => exact ⟨_, rfl, by simp [evRow] at hj; subst hj; exact hd⟩
  | 3 => exact ⟨_, rfl, by simp [evRow] at hj; subst hj; exact hR _⟩
  | 4 => exact ⟨_, rfl, by simp [evRow] at hj; subst hj; exact hR _⟩
  | j + 5 => simp [evRow] at hj
theorem frz_evQ {A : Objs} {env : List (Nat × DV)} {mk : Option Ob} {es : List Ev} {e : Ev} {q : Nat} (hq : A[q]? = some (some (.arr 1 (intRows .u8 e.data)))) :
    Frzs ⟨env, A ++ [mk, some (.arr 5 (evRows es ++ [[.int .i64 e.tick, .int .i64 e.kind, .own q 0 e.data.length, .int .i64 e.rows, .int .i64 e.cols]]))]⟩ ⟨env, A.set q none ++ [mk, some (.arr 5 (evRows (es ++ [e])))]⟩ := by
  have := Frzs.inner (env := env) (T := A ++ [mk, some (.arr 5 (evRows es ++ [[.int .i64 e.tick, .int .i64 e.kind, .own q 0 e.data.length, .int .i64 e.rows, .int .i64 e.cols]]))])
    (p := q) (q := A.length + 1) (rows' := evRows es ++ [evRow e]) (tb_f hq _) (tb_geti _ _ 1) (by have := tb_lt hq; omega) (rows_last (fr0.refl _ _ _) (ev_row e (fr0.refl _ _ _) (.inr ?_)))
  · rw [tb_sf hq] at this
    have h2 := tb_seti (A.set q none) [mk, some (Ob.arr 5 (evRows es ++ [[.int .i64 e.tick, .int .i64 e.kind, .own q 0 e.data.length, .int .i64 e.rows, .int .i64 e.cols]]))] 1 (some (Ob.arr 5 (evRows es ++ [evRow e])))
    rw [List.length_set] at h2
    rw [h2] at this
    rw [← evRows_app]
    exact this
  · have : (intRows .u8 e.data).take e.data.length = intRows .u8 e.data := List.take_of_length_le (by simp [intRows])
    simp [DV.frz0, intRows_length, this]
theorem wk_ev {A : Objs} {env : List (Nat × DV)} {mk : Option Ob} {es : List Ev} {e : Ev} (he : e.data = []) :
    Frzs ⟨env, A ++ [mk, some (.arr 5 (evRows es ++ [[.int .i64 e.tick, .int .i64 e.kind, .sl 0 [] .nil, .int .i64 e.rows, .int .i64 e.cols]]))]⟩ ⟨env, A ++ [mk, some (.arr 5 (evRows (es ++ [e])))]⟩ := by
  have := Frzs.rows (env := env) (T := A ++ [mk, some (.arr 5 (evRows es ++ [[.int .i64 e.tick, .int .i64 e.kind, .sl 0 [] .nil, .int .i64 e.rows, .int .i64 e.cols]]))])
    (q := A.length + 1) (rows' := evRows es ++ [evRow e]) (tb_geti _ _ 1) (rows_last wk0_self (ev_row e wk0_self (by simp [he, wk0, intRows_nil])))
  rw [tb_seti] at this
  rw [← evRows_app]
  exact this
theorem wk_ev' {A : Objs} {env : List (Nat × DV)} {mk : Option Ob} {es : List Ev} {tick kind rows cols : Int} :
    Frzs ⟨env, A ++ [mk, some (.arr 5 (evRows es ++ [[.int .i64 tick, .int .i64 kind, .sl 0 [] .nil, .int .i64 rows, .int .i64 cols]]))]⟩ ⟨env, A ++ [mk, some (.arr 5 (evRows (es ++ [⟨tick, kind, [], rows, cols⟩])))]⟩ := wk_ev (e := ⟨tick, kind, [], rows, cols⟩) rfl
theorem ev_one {es : List Ev} {tick kind rows cols : Int} {d : List Int} : evRows es ++ [[.int .i64 tick, .int .i64 kind, .sl 1 (intRows .u8 d) .any, .int .i64 rows, .int .i64 cols]] = evRows (es ++ [⟨tick, kind, d, rows, cols⟩]) := by rw [← evRows_app]; rfl
theorem sevents_K {T : Objs} {K : DV → Objs → Prop} {l : List Int} {k : SK} {sz : Nat} (hs : sz = 1 ∨ l = []) (hk : ∀ n ∈ l, 0 ≤ n ∧ n ≤ 255) (hl : l.length ≤ 100)
    (h : ∀ T' es t, EvsOk es t l.length → Keep T T' [] → K (.sl 5 (evRows es) .any) T') : CallK PG 14 [.sl sz (intRows .u8 l) k, .sl 0 [] .nil] T K := by
  refine CallK.of_fnF TEv_ok rc_sevents_ok (by simp [rc_sevents]) ?_
  unfold rc_sevents
  dsimp only
  simp -implicitDefEqProofs -dsimp only [TEv_l, vcB1, vcB2, vcB3, vcB4, vcB5, vcA1, vcA2, vcA3, vcA4, vcA5, vcA6, vcA7, ↓vcP1, ↓vcP2, ↓reduceIte, Option.map_some, Option.map_none, Option.bind_some, Option.bind_none, if_true, if_false, reduceCtorEq, beq_true, beq_false, Bool.not_true, Bool.not_false, BEq.rfl, Bool.true_beq, Bool.false_beq, and_true, true_and, and_self, decide_true, decide_false, List.length_cons, List.length_nil, List.all_cons, List.all_nil, Bool.and_true, Bool.and_self, List.getElem?_cons_zero, List.getElem?_cons_succ, List.set_cons_zero, List.set_cons_succ, List.nil_append, List.cons_append, List.append_nil, List.map_cons, List.map_nil, not_true_eq_false, not_false_eq_true, false_implies, true_implies, implies_true, List.take_succ_cons, List.take_zero, List.take_nil, List.drop_succ_cons, List.drop_zero, List.drop_nil, Nat.reduceLT, Nat.reduceLeDiff, Nat.reduceEqDiff, Nat.reduceAdd, Nat.reduceSub, Nat.reduceMul, Int.reduceLT, Int.reduceLE, Int.reduceEq, Int.reduceToNat, Int.reduceAdd, Int.reduceSub, Int.reduceNeg, List.reduceReplicate, List.replicate_zero, List.replicate_succ, ne_eq, List.flatMap_cons, List.flatMap_nil, List.length_replicate, List.length_append, Nat.le_refl, Nat.le_add_right, Nat.add_assoc, List.append_assoc, or_true, true_or, or_false, false_or, and_false, false_and, exists_eq_left, exists_eq_left', Option.some.injEq, DV.int.injEq, DV.bool.injEq, DV.sl.injEq, DV.own.injEq, DV.tup.injEq, List.cons.injEq, Ob.arr.injEq, Ob.box.injEq, Option.map_map, Int.toNat_natCast, Int.toNat_zero, Nat.reducePow, Int.toNat_one, Int.reduceMul, Nat.mul_one, Nat.zero_add, Nat.add_zero, Function.comp_apply, List.map_append, List.map_replicate, Int.cast_ofNat_Int, Nat.left_eq_add, Nat.add_eq_left, Nat.add_left_cancel_iff]
  refine LoopWp.own 5 5 rfl (.inl rfl) ?_
  refine LoopWp.invF TEv_ok (S := fun s : Objs × Nat × List Ev × Int × Nat => ⟨[(0, .sl sz (intRows .u8 l) k), (1, .sl 0 [] .nil), (5, .own s.2.1 0 s.2.2.1.length), (6, .int .i64 s.2.2.2.1), (7, .int .i64 s.2.2.2.2)], s.1⟩)
    (I := fun s => s.1[s.2.1]? = some (some (.arr 5 (evRows s.2.2.1))) ∧ EvsOk s.2.2.1 s.2.2.2.1 s.2.2.2.2 ∧ Keep T s.1 [] ∧ T.length ≤ s.2.1 ∧ s.2.2.2.2 ≤ l.length)
    (μ := fun s => l.length - s.2.2.2.2) (T ++ [some (.arr 5 (evRows []))], T.length, [], 0, 0) ⟨tb_get0 _ _ _, ⟨rfl, .nil, by simp, by simp, by simp⟩, Keep.app _ _ _, by simp, by simp⟩ ?_ ?_
  · simp -implicitDefEqProofs -dsimp only [vcB1, vcB2, vcB3, vcB4, vcB5, vcA1, vcA2, vcA3, vcA4, vcA5, vcA6, vcA7, ↓vcP1, ↓vcP2, ↓reduceIte, Option.map_some, Option.map_none, Option.bind_some, Option.bind_none, if_true, if_false, reduceCtorEq, beq_true, beq_false, Bool.not_true, Bool.not_false, BEq.rfl, Bool.true_beq, Bool.false_beq, and_true, true_and, and_self, decide_true, decide_false, List.length_cons, List.length_nil, List.all_cons, List.all_nil, Bool.and_true, Bool.and_self, List.getElem?_cons_zero, List.getElem?_cons_succ, List.set_cons_zero, List.set_cons_succ, List.nil_append, List.cons_append, List.append_nil, List.map_cons, List.map_nil, not_true_eq_false, not_false_eq_true, false_implies, true_implies, implies_true, List.take_succ_cons, List.take_zero, List.take_nil, List.drop_succ_cons, List.drop_zero, List.drop_nil, Nat.reduceLT, Nat.reduceLeDiff, Nat.reduceEqDiff, Nat.reduceAdd, Nat.reduceSub, Nat.reduceMul, Int.reduceLT, Int.reduceLE, Int.reduceEq, Int.reduceToNat, Int.reduceAdd, Int.reduceSub, Int.reduceNeg, List.reduceReplicate, List.replicate_zero, List.replicate_succ, ne_eq, List.flatMap_cons, List.flatMap_nil, List.length_replicate, List.length_append, Nat.le_refl, Nat.le_add_right, Nat.add_assoc, List.append_assoc, or_true, true_or, or_false, false_or, and_false, false_and, exists_eq_left, exists_eq_left', Option.some.injEq, DV.int.injEq, DV.bool.injEq, DV.sl.injEq, DV.own.injEq, DV.tup.injEq, List.cons.injEq, Ob.arr.injEq, Ob.box.injEq, Option.map_map, Int.toNat_natCast, Int.toNat_zero, Nat.reducePow, Int.toNat_one, Int.reduceMul, Nat.mul_one, Nat.zero_add, Nat.add_zero, Function.comp_apply, List.map_append, List.map_replicate, Int.cast_ofNat_Int, Nat.left_eq_add, Nat.add_eq_left, Nat.add_left_cancel_iff]
    exact .refl _
  · intro ⟨T1, p, es, t, i⟩ ⟨i1, i2, i3, i4, i5⟩
    dsimp only at i1 i2 i3 i4 i5 ⊢
    unfold rc_sevents_l0
    by_cases h0 : i < l.length
    · have h1 : (i : Int) < l.length := by omega
      have h2 : (0 : Int) ≤ i := by omega
      have hz : sz = 1 := hs.resolve_right (by intro e; subst e; simp at h0)
      subst hz
      have hg : (intRows .u8 l)[i]? = some [.int .u8 (l.getD i 0)] := by rw [intRows_get]; simp [h0]
      have hw1 : IntKind.i64.wrap ((i : Int) + 1) = ((i + 1 : Nat) : Int) := by rw [wI64 (by omega) (by omega)]; omega
      have hb := hk (l.getD i 0) (by rw [List.getD_eq_getElem?_getD, List.getElem?_eq_getElem h0]; exact List.getElem_mem _)
      generalize hx : l.getD i 0 = x at *
      have t0 := i2.t0
      have e3 : x.tmod 3 = x % 3 := Int.tmod_eq_emod_of_nonneg hb.1
      have w3 : IntKind.i64.wrap (x % 3) = x % 3 := wI64 (by omega) (by omega)
      have wt : IntKind.i64.wrap (t + x % 3) = t + x % 3 := wI64 (by omega) (by omega)
      have q3 : x.tdiv 3 = x / 3 := Int.tdiv_eq_ediv_of_nonneg hb.1
      have wq3 : IntKind.u8.wrap (x / 3) = x / 3 := by simp [IntKind.wrap, IntKind.bits, IntKind.signed]; omega
      have e33 : (x / 3).tmod 3 = (x / 3) % 3 := Int.tmod_eq_emod_of_nonneg (by omega)
      have w33 : IntKind.i64.wrap ((x / 3) % 3) = (x / 3) % 3 := wI64 (by omega) (by omega)
      have hpl := tb_lt i1
      have w0 : IntKind.i64.wrap 0 = 0 := by decide
      have w1 : IntKind.i64.wrap 1 = 1 := by decide
      have w2 : IntKind.i64.wrap 2 = 2 := by decide
      have hin : inK .u8 [x] := ⟨by simp, fun n hn => by simp at hn; subst hn; exact hb⟩
      have hpj : ∀ j : Nat, ¬ p = T1.length + j := fun j => by omega
      have hp0 : ¬ p = T1.length := by omega
      have hp0' : ¬ T1.length = p := by omega
      have hes : (es.length + 1) * 56 ≤ 140737488355328 ∧ es.length ≤ 4611686018427387903 := by have := i2.len; omega
      have x4 : x.tmod 4 = x % 4 := Int.tmod_eq_emod_of_nonneg hb.1
      have wx4 : IntKind.i64.wrap (x % 4) = x % 4 := wI64 (by omega) (by omega)
      have m4 : min 0 (x % 4) = 0 := by omega
      have close : ∀ (st0 : St) (A : Objs) (mk : Option Ob) (e : Ev), Keep T A [] → e.tick = t + x % 3 → e.data.length ≤ 30 →
          Frzs st0 ⟨[(0, .sl 1 (intRows .u8 l) k), (1, .sl 0 [] .nil), (5, .own (A.length + 1) 0 (es.length + 1)), (6, .int .i64 (t + x % 3)), (7, .int .i64 ((i + 1 : Nat) : Int))], A ++ [mk, some (.arr 5 (evRows (es ++ [e])))]⟩ →
          ∃ s' : Objs × Nat × List Ev × Int × Nat, Frzs st0 ⟨[(0, .sl 1 (intRows .u8 l) k), (1, .sl 0 [] .nil), (5, .own s'.2.1 0 s'.2.2.1.length), (6, .int .i64 s'.2.2.2.1), (7, .int .i64 (s'.2.2.2.2 : Nat))], s'.1⟩ ∧
            (s'.1[s'.2.1]? = some (some (.arr 5 (evRows s'.2.2.1))) ∧ EvsOk s'.2.2.1 s'.2.2.2.1 s'.2.2.2.2 ∧ Keep T s'.1 [] ∧ T.length ≤ s'.2.1 ∧ s'.2.2.2.2 ≤ l.length) ∧ l.length - s'.2.2.2.2 < l.length - i := fun st0 A mk e hA he hd hF =>
        ⟨(A ++ [mk, some (.arr 5 (evRows (es ++ [e])))], A.length + 1, es ++ [e], t + x % 3, i + 1), by simpa using hF, ⟨tb_geti _ _ 1, i2.more (t' := t + x % 3) (by omega) he hd, hA.newApp _, by have := hA.1; dsimp only; omega, h0⟩, by dsimp only; omega⟩
      have hTp : ∀ A : Objs, Keep T1 A [] → Keep T (A.set p none) [] := fun A hA => (i3.new hA (by simp)).new (j := [p]) ⟨by simp, fun k ob hk ho => tb_ne ho _ (by simpa using hk)⟩ (by simpa using i4)
      rcases (show (x / 3) % 3 = 0 ∨ (x / 3) % 3 = 1 ∨ (x / 3) % 3 = 2 by omega) with hc | hc | hc
      · simp -implicitDefEqProofs -dsimp only [TEv_l, tb_all i1, h1, h2, hg, hw1, e3, w3, wt, q3, wq3, e33, w33, hc, w0, w1, w2, hin, x4, wx4, m4, hpj, hp0, hp0', hes, false_and, Nat.sub_zero, evRows_len, tb_at, vcB1, vcB2, vcB3, vcB4, vcB5, vcA1, vcA2, vcA3, vcA4, vcA5, vcA6, vcA7, ↓vcP1, ↓vcP2, ↓reduceIte, Option.map_some, Option.map_none, Option.bind_some, Option.bind_none, if_true, if_false, reduceCtorEq, beq_true, beq_false, Bool.not_true, Bool.not_false, BEq.rfl, Bool.true_beq, Bool.false_beq, and_true, true_and, and_self, decide_true, decide_false, List.length_cons, List.length_nil, List.all_cons, List.all_nil, Bool.and_true, Bool.and_self, List.getElem?_cons_zero, List.getElem?_cons_succ, List.set_cons_zero, List.set_cons_succ, List.nil_append, List.cons_append, List.append_nil, List.map_cons, List.map_nil, not_true_eq_false, not_false_eq_true, false_implies, true_implies, implies_true, List.take_succ_cons, List.take_zero, List.take_nil, List.drop_succ_cons, List.drop_zero, List.drop_nil, Nat.reduceLT, Nat.reduceLeDiff, Nat.reduceEqDiff, Nat.reduceAdd, Nat.reduceSub, Nat.reduceMul, Int.reduceLT, Int.reduceLE, Int.reduceEq, Int.reduceToNat, Int.reduceAdd, Int.reduceSub, Int.reduceNeg, List.reduceReplicate, List.replicate_zero, List.replicate_succ, ne_eq, List.flatMap_cons, List.flatMap_nil, List.length_replicate, List.length_append, Nat.le_refl, Nat.le_add_right, Nat.add_assoc, List.append_assoc, or_true, true_or, or_false, false_or, and_false, false_and, exists_eq_left, exists_eq_left', Option.some.injEq, DV.int.injEq, DV.bool.injEq, DV.sl.injEq, DV.own.injEq, DV.tup.injEq, List.cons.injEq, Ob.arr.injEq, Ob.box.injEq, Option.map_map, Int.toNat_natCast, Int.toNat_zero, Nat.reducePow, Int.toNat_one, Int.reduceMul, Nat.mul_one, Nat.zero_add, Nat.add_zero, Function.comp_apply, List.map_append, List.map_replicate, Int.cast_ofNat_Int, Nat.left_eq_add, Nat.add_eq_left, Nat.add_left_cancel_iff]
        have hT : (T1 ++ [some (Ob.box [.int .i64 (t + x % 3), .int .i64 0, .sl 0 [] .nil, .int .i64 0, .int .i64 0])])[T1.length]? = _ := tb_get0 _ _ _
        have hlt : ((l.drop i).take (i + 1 - i)).length ≤ 1 := by rw [List.length_take]; omega
        refine ⟨by omega, h0, skeys_K (.inl rfl) (fun n hn => hk n (List.mem_of_mem_drop (List.mem_of_mem_take hn))) (by omega) fun bs T2 q hB => ?_⟩
        have b1 := hB.keep.at hT (by simp)
        have b2 := hB.keep.at (tb_f i1 _) (by simp)
        have hbl : bs.length ≤ 30 := by have := hB.few; omega
        have hqn := hB.new
        simp at hqn
        have b2' := fun y => tb_all (tb_ne b2 y hp0)
        simp -implicitDefEqProofs -dsimp only [TEv_l, tb_all b1, tb_all b2, b2', hw1, hes, evRows_len, tb_at, vcB1, vcB2, vcB3, vcB4, vcB5, vcA1, vcA2, vcA3, vcA4, vcA5, vcA6, vcA7, ↓vcP1, ↓vcP2, ↓reduceIte, Option.map_some, Option.map_none, Option.bind_some, Option.bind_none, if_true, if_false, reduceCtorEq, beq_true, beq_false, Bool.not_true, Bool.not_false, BEq.rfl, Bool.true_beq, Bool.false_beq, and_true, true_and, and_self, decide_true, decide_false, List.length_cons, List.length_nil, List.all_cons, List.all_nil, Bool.and_true, Bool.and_self, List.getElem?_cons_zero, List.getElem?_cons_succ, List.set_cons_zero, List.set_cons_succ, List.nil_append, List.cons_append, List.append_nil, List.map_cons, List.map_nil, not_true_eq_false, not_false_eq_true, false_implies, true_implies, implies_true, List.take_succ_cons, List.take_zero, List.take_nil, List.drop_succ_cons, List.drop_zero, List.drop_nil, Nat.reduceLT, Nat.reduceLeDiff, Nat.reduceEqDiff, Nat.reduceAdd, Nat.reduceSub, Nat.reduceMul, Int.reduceLT, Int.reduceLE, Int.reduceEq, Int.reduceToNat, Int.reduceAdd, Int.reduceSub, Int.reduceNeg, List.reduceReplicate, List.replicate_zero, List.replicate_succ, ne_eq, List.flatMap_cons, List.flatMap_nil, List.length_replicate, List.length_append, Nat.le_refl, Nat.le_add_right, Nat.add_assoc, List.append_assoc, or_true, true_or, or_false, false_or, and_false, false_and, exists_eq_left, exists_eq_left', Option.some.injEq, DV.int.injEq, DV.bool.injEq, DV.sl.injEq, DV.own.injEq, DV.tup.injEq, List.cons.injEq, Ob.arr.injEq, Ob.box.injEq, Option.map_map, Int.toNat_natCast, Int.toNat_zero, Nat.reducePow, Int.toNat_one, Int.reduceMul, Nat.mul_one, Nat.zero_add, Nat.add_zero, Function.comp_apply, List.map_append, List.map_replicate, Int.cast_ofNat_Int, Nat.left_eq_add, Nat.add_eq_left, Nat.add_left_cancel_iff]
        have hq2 : (((T2.set T1.length (some (Ob.box [.int .i64 (t + x % 3), .int .i64 0, .own q 0 bs.length, .int .i64 0, .int .i64 0]))).set p none))[q]? = some (some (.arr 1 (intRows .u8 bs))) := tb_ne (tb_ne hB.there _ (by omega)) _ (by omega)
        refine close _ ((((T2.set T1.length (some (Ob.box [.int .i64 (t + x % 3), .int .i64 0, .own q 0 bs.length, .int .i64 0, .int .i64 0]))).set p none)).set q none) (some (Ob.arr 5 [[.int .i64 (t + x % 3), .int .i64 0, .own q 0 bs.length, .int .i64 0, .int .i64 0]])) ⟨t + x % 3, 0, bs, 0, 0⟩ ?_ rfl hbl ?_
        · have hk2 : Keep T1 (T2.set T1.length (some (Ob.box [.int .i64 (t + x % 3), .int .i64 0, .own q 0 bs.length, .int .i64 0, .int .i64 0]))) [] := ((Keep.app T1 _ []).new hB.keep (by simp)).new (j := [T1.length]) ⟨by simp, fun k ob hk ho => tb_ne ho _ (by simpa using hk)⟩ (by simp)
          exact (hTp _ hk2).new (j := [q]) ⟨by simp, fun k ob hk ho => tb_ne ho _ (by simpa using hk)⟩ (by simp; have := i3.1; omega)
        · have := frz_evQ (env := [(0, .sl 1 (intRows .u8 l) k), (1, .sl 0 [] .nil), (5, .own (((T2.set T1.length (some (Ob.box [.int .i64 (t + x % 3), .int .i64 0, .own q 0 bs.length, .int .i64 0, .int .i64 0])))).length + 1) 0 (es.length + 1)), (6, .int .i64 (t + x % 3)), (7, .int .i64 ((i + 1 : Nat) : Int))]) (mk := some (Ob.arr 5 [[.int .i64 (t + x % 3), .int .i64 0, .own q 0 bs.length, .int .i64 0, .int .i64 0]])) (es := es) (e := ⟨t + x % 3, 0, bs, 0, 0⟩) hq2
          simpa using this
      · simp -implicitDefEqProofs -dsimp only [TEv_l, tb_all i1, h1, h2, hg, hw1, e3, w3, wt, q3, wq3, e33, w33, hc, w0, w1, w2, hin, x4, wx4, m4, hpj, hp0, hp0', hes, false_and, Nat.sub_zero, evRows_len, tb_at, vcB1, vcB2, vcB3, vcB4, vcB5, vcA1, vcA2, vcA3, vcA4, vcA5, vcA6, vcA7, ↓vcP1, ↓vcP2, ↓reduceIte, Option.map_some, Option.map_none, Option.bind_some, Option.bind_none, if_true, if_false, reduceCtorEq, beq_true, beq_false, Bool.not_true, Bool.not_false, BEq.rfl, Bool.true_beq, Bool.false_beq, and_true, true_and, and_self, decide_true, decide_false, List.length_cons, List.length_nil, List.all_cons, List.all_nil, Bool.and_true, Bool.and_self, List.getElem?_cons_zero, List.getElem?_cons_succ, List.set_cons_zero, List.set_cons_succ, List.nil_append, List.cons_append, List.append_nil, List.map_cons, List.map_nil, not_true_eq_false, not_false_eq_true, false_implies, true_implies, implies_true, List.take_succ_cons, List.take_zero, List.take_nil, List.drop_succ_cons, List.drop_zero, List.drop_nil, Nat.reduceLT, Nat.reduceLeDiff, Nat.reduceEqDiff, Nat.reduceAdd, Nat.reduceSub, Nat.reduceMul, Int.reduceLT, Int.reduceLE, Int.reduceEq, Int.reduceToNat, Int.reduceAdd, Int.reduceSub, Int.reduceNeg, List.reduceReplicate, List.replicate_zero, List.replicate_succ, ne_eq, List.flatMap_cons, List.flatMap_nil, List.length_replicate, List.length_append, Nat.le_refl, Nat.le_add_right, Nat.add_assoc, List.append_assoc, or_true, true_or, or_false, false_or, and_false, false_and, exists_eq_left, exists_eq_left', Option.some.injEq, DV.int.injEq, DV.bool.injEq, DV.sl.injEq, DV.own.injEq, DV.tup.injEq, List.cons.injEq, Ob.arr.injEq, Ob.box.injEq, Option.map_map, Int.toNat_natCast, Int.toNat_zero, Nat.reducePow, Int.toNat_one, Int.reduceMul, Nat.mul_one, Nat.zero_add, Nat.add_zero, Function.comp_apply, List.map_append, List.map_replicate, Int.cast_ofNat_Int, Nat.left_eq_add, Nat.add_eq_left, Nat.add_left_cancel_iff]
        rw [ev_one]
        have hsl := sbytesF_len [x]
        generalize hBX : some (Ob.box [.int .i64 (t + x % 3), .int .i64 1, .sl 1 (intRows .u8 (sbytesF [x])) .any, .int .i64 0, .int .i64 0]) = BX
        generalize hMK : some (Ob.arr 5 [[.int .i64 (t + x % 3), .int .i64 1, .sl 1 (intRows .u8 (sbytesF [x])) .any, .int .i64 0, .int .i64 0]]) = MK
        have key : ∀ a b c, ∃ s' : Objs × Nat × List Ev × Int × Nat, _ := fun a b c => close ⟨_, T1.set p none ++ [BX, a, b, c, MK, some (.arr 5 (evRows (es ++ [⟨t + x % 3, 1, sbytesF [x], 0, 0⟩])))]⟩ (T1.set p none ++ [BX, a, b, c]) MK ⟨t + x % 3, 1, sbytesF [x], 0, 0⟩ ((hTp T1 (Keep.refl _ _)).newApp _) rfl (by simp at hsl ⊢; omega) (by
          simp only [List.append_assoc, List.cons_append, List.nil_append]
          exact .refl _)
        simp only [List.length_append, List.length_set, List.length_cons, List.length_nil] at key
        exact ⟨key _ _ _, key _ _ _⟩
      · simp -implicitDefEqProofs -dsimp only [TEv_l, tb_all i1, h1, h2, hg, hw1, e3, w3, wt, q3, wq3, e33, w33, hc, w0, w1, w2, hin, x4, wx4, m4, hpj, hp0, hp0', hes, false_and, Nat.sub_zero, evRows_len, tb_at, vcB1, vcB2, vcB3, vcB4, vcB5, vcA1, vcA2, vcA3, vcA4, vcA5, vcA6, vcA7, ↓vcP1, ↓vcP2, ↓reduceIte, Option.map_some, Option.map_none, Option.bind_some, Option.bind_none, if_true, if_false, reduceCtorEq, beq_true, beq_false, Bool.not_true, Bool.not_false, BEq.rfl, Bool.true_beq, Bool.false_beq, and_true, true_and, and_self, decide_true, decide_false, List.length_cons, List.length_nil, List.all_cons, List.all_nil, Bool.and_true, Bool.and_self, List.getElem?_cons_zero, List.getElem?_cons_succ, List.set_cons_zero, List.set_cons_succ, List.nil_append, List.cons_append, List.append_nil, List.map_cons, List.map_nil, not_true_eq_false, not_false_eq_true, false_implies, true_implies, implies_true, List.take_succ_cons, List.take_zero, List.take_nil, List.drop_succ_cons, List.drop_zero, List.drop_nil, Nat.reduceLT, Nat.reduceLeDiff, Nat.reduceEqDiff, Nat.reduceAdd, Nat.reduceSub, Nat.reduceMul, Int.reduceLT, Int.reduceLE, Int.reduceEq, Int.reduceToNat, Int.reduceAdd, Int.reduceSub, Int.reduceNeg, List.reduceReplicate, List.replicate_zero, List.replicate_succ, ne_eq, List.flatMap_cons, List.flatMap_nil, List.length_replicate, List.length_append, Nat.le_refl, Nat.le_add_right, Nat.add_assoc, List.append_assoc, or_true, true_or, or_false, false_or, and_false, false_and, exists_eq_left, exists_eq_left', Option.some.injEq, DV.int.injEq, DV.bool.injEq, DV.sl.injEq, DV.own.injEq, DV.tup.injEq, List.cons.injEq, Ob.arr.injEq, Ob.box.injEq, Option.map_map, Int.toNat_natCast, Int.toNat_zero, Nat.reducePow, Int.toNat_one, Int.reduceMul, Nat.mul_one, Nat.zero_add, Nat.add_zero, Function.comp_apply, List.map_append, List.map_replicate, Int.cast_ofNat_Int, Nat.left_eq_add, Nat.add_eq_left, Nat.add_left_cancel_iff]
        generalize IntKind.i64.wrap (IntKind.i64.wrap ((IntKind.u8.wrap (x.tdiv 9)).tmod 6) + 1) = r1
        generalize IntKind.i64.wrap (IntKind.i64.wrap ((IntKind.u8.wrap (x.tdiv 5)).tmod 9) + 1) = c1
        generalize hBX : some (Ob.box [.int .i64 (t + x % 3), .int .i64 2, .sl 0 [] .nil, .int .i64 r1, .int .i64 c1]) = BX
        generalize hMK : some (Ob.arr 5 [[.int .i64 (t + x % 3), .int .i64 2, .sl 0 [] .nil, .int .i64 r1, .int .i64 c1]]) = MK
        refine close _ (T1.set p none ++ [BX]) MK ⟨t + x % 3, 2, [], r1, c1⟩ ((hTp T1 (Keep.refl _ _)).newApp _) rfl (by simp) ?_
        have := wk_ev' (A := T1.set p none ++ [BX]) (env := [(0, .sl 1 (intRows .u8 l) k), (1, .sl 0 [] .nil), (5, .own (T1.length + 2) 0 (es.length + 1)), (6, .int .i64 (t + x % 3)), (7, .int .i64 ((i + 1 : Nat) : Int))]) (mk := MK) (es := es) (tick := t + x % 3) (kind := 2) (rows := r1) (cols := c1)
        simpa using this
    · have h1 : ¬ (i : Int) < l.length := by omega
      simp -implicitDefEqProofs -dsimp only [h1, vcB1, vcB2, vcB3, vcB4, vcB5, vcA1, vcA2, vcA3, vcA4, vcA5, vcA6, vcA7, ↓vcP1, ↓vcP2, ↓reduceIte, Option.map_some, Option.map_none, Option.bind_some, Option.bind_none, if_true, if_false, reduceCtorEq, beq_true, beq_false, Bool.not_true, Bool.not_false, BEq.rfl, Bool.true_beq, Bool.false_beq, and_true, true_and, and_self, decide_true, decide_false, List.length_cons, List.length_nil, List.all_cons, List.all_nil, Bool.and_true, Bool.and_self, List.getElem?_cons_zero, List.getElem?_cons_succ, List.set_cons_zero, List.set_cons_succ, List.nil_append, List.cons_append, List.append_nil, List.map_cons, List.map_nil, not_true_eq_false, not_false_eq_true, false_implies, true_implies, implies_true, List.take_succ_cons, List.take_zero, List.take_nil, List.drop_succ_cons, List.drop_zero, List.drop_nil, Nat.reduceLT, Nat.reduceLeDiff, Nat.reduceEqDiff, Nat.reduceAdd, Nat.reduceSub, Nat.reduceMul, Int.reduceLT, Int.reduceLE, Int.reduceEq, Int.reduceToNat, Int.reduceAdd, Int.reduceSub, Int.reduceNeg, List.reduceReplicate, List.replicate_zero, List.replicate_succ, ne_eq, List.flatMap_cons, List.flatMap_nil, List.length_replicate, List.length_append, Nat.le_refl, Nat.le_add_right, Nat.add_assoc, List.append_assoc, or_true, true_or, or_false, false_or, and_false, false_and, exists_eq_left, exists_eq_left', Option.some.injEq, DV.int.injEq, DV.bool.injEq, DV.sl.injEq, DV.own.injEq, DV.tup.injEq, List.cons.injEq, Ob.arr.injEq, Ob.box.injEq, Option.map_map, Int.toNat_natCast, Int.toNat_zero, Nat.reducePow, Int.toNat_one, Int.reduceMul, Nat.mul_one, Nat.zero_add, Nat.add_zero, Function.comp_apply, List.map_append, List.map_replicate, Int.cast_ofNat_Int, Nat.left_eq_add, Nat.add_eq_left, Nat.add_left_cancel_iff]
      obtain rfl : i = l.length := by omega
      refine ⟨i3.1, _, _, Frzs.own i1 (by simp [evRows_len]), ?_⟩
      rw [List.drop_zero, List.take_of_length_le (by simp [evRows_len])]
      exact h _ _ _ i2 (i3.new (j := [p]) ⟨by simp, fun k ob hk ho => tb_ne ho _ (by simpa using hk)⟩ (by simpa using i4))
end Go.Proofs.Ytaopaongpoecoaa
