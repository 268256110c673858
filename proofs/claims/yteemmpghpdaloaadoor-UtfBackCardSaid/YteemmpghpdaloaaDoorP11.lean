/- Plain laws of runes and bytes. -/
import Derived.Test.YteemmpghpdaloaaDoorP10
set_option linter.unusedVariables false
set_option linter.unusedSimpArgs false
set_option maxRecDepth 10000
namespace Go.Proofs.YteemmpghpdaloaaDoor
open Go.RowKit
theorem byte_cases {p : Int → Prop} (h : ∀ n : Nat, n < 256 → p n) {a : Int} (ha : 0 ≤ a ∧ a ≤ 255) : p a := by
  have h1 : a = (a.toNat : Int) := by omega
  rw [h1]
  exact h _ (by omega)
theorem cls {a : Int} (h : 194 ≤ a ∧ a ≤ 244) : firstF a % 8 = rnum a ∧ accLo (firstF a / 16) = rlo a ∧ accHi (firstF a / 16) = rhi a ∧ firstF a < 240 := by
  have : ∀ n : Nat, n < 256 → 194 ≤ (n : Int) ∧ (n : Int) ≤ 244 → firstF n % 8 = rnum n ∧ accLo (firstF n / 16) = rlo n ∧ accHi (firstF n / 16) = rhi n ∧ firstF n < 240 := by decide +kernel
  exact byte_cases (p := fun a => 194 ≤ a ∧ a ≤ 244 → firstF a % 8 = rnum a ∧ accLo (firstF a / 16) = rlo a ∧ accHi (firstF a / 16) = rhi a ∧ firstF a < 240) this (by omega) h
theorem cls0 {a : Int} (ha : 0 ≤ a ∧ a ≤ 255) (h : ¬ (194 ≤ a ∧ a ≤ 244)) : 240 ≤ firstF a ∧ (firstF a = 241 ↔ 128 ≤ a) := by
  have : ∀ n : Nat, n < 256 → ¬ (194 ≤ (n : Int) ∧ (n : Int) ≤ 244) → 240 ≤ firstF n ∧ (firstF n = 241 ↔ 128 ≤ (n : Int)) := by decide +kernel
  exact byte_cases (p := fun a => ¬ (194 ≤ a ∧ a ≤ 244) → 240 ≤ firstF a ∧ (firstF a = 241 ↔ 128 ≤ a)) this ha h
theorem rnums (a : Int) : (2 ≤ rnum a ∧ rnum a ≤ 4) ∧ (rnum a = 4 ↔ 240 ≤ a) ∧ (rnum a = 3 ↔ 224 ≤ a ∧ a < 240) ∧ (rnum a = 2 ↔ a < 224) := by
  unfold rnum
  refine ⟨?_, ?_, ?_, ?_⟩ <;> (split <;> (try split) <;> omega)
theorem rlohi (a : Int) : 128 ≤ rlo a ∧ rlo a ≤ 160 ∧ 143 ≤ rhi a ∧ rhi a ≤ 191 ∧ (a = 224 → rlo a = 160) ∧ (a = 240 → rlo a = 144) ∧ (a = 237 → rhi a = 159) ∧ (a = 244 → rhi a = 143) ∧ (a ≠ 224 → a ≠ 240 → rlo a = 128) ∧ (a ≠ 237 → a ≠ 244 → rhi a = 191) := by
  unfold rlo rhi
  refine ⟨?_, ?_, ?_, ?_, ?_, ?_, ?_, ?_, ?_, ?_⟩ <;> (repeat' split) <;> omega
theorem ubeg1 {a : Int} (ha : 0 ≤ a ∧ a ≤ 255) : ubeg [a] = decide (194 ≤ a ∧ a ≤ 244) := by
  have : ∀ n : Nat, n < 256 → ubeg [(n : Int)] = decide (194 ≤ (n : Int) ∧ (n : Int) ≤ 244) := by decide +kernel
  exact byte_cases (p := fun a => ubeg [a] = decide (194 ≤ a ∧ a ≤ 244)) this ha
theorem ubeg0 : ubeg [] = false := by decide
theorem ubeg4 {l : List Int} (h : 4 ≤ l.length) : ubeg l = false := by
  simp only [ubeg, decide_eq_false (show ¬ l.length < 4 by omega), Bool.and_false, Bool.false_and]
theorem ubeg2 {a b : Int} (ha : 0 ≤ a ∧ a ≤ 255) : ubeg [a, b] = decide (224 ≤ a ∧ a ≤ 244 ∧ rlo a ≤ b ∧ b ≤ rhi a) := by
  have hr := rnums a
  by_cases h : 194 ≤ a ∧ a ≤ 244
  · obtain ⟨h1, h2, h3, h4⟩ := cls h
    simp only [ubeg, full, List.length_cons, List.length_nil, List.getD_cons_zero, List.getD_cons_succ, h1, h2, h3]
    rw [Bool.eq_iff_iff]
    simp
    omega
  · obtain ⟨h1, h2⟩ := cls0 ha h
    by_cases h5 : 128 ≤ a
    · simp only [ubeg, full, List.length_cons, List.length_nil, List.getD_cons_zero, List.getD_cons_succ, h2.2 h5]
      rw [Bool.eq_iff_iff]
      simp
      omega
    · rw [Bool.eq_iff_iff]
      simp [ubeg]
      omega
theorem ubeg3 {a b c : Int} (ha : 0 ≤ a ∧ a ≤ 255) : ubeg [a, b, c] = decide (240 ≤ a ∧ a ≤ 244 ∧ rlo a ≤ b ∧ b ≤ rhi a ∧ 128 ≤ c ∧ c ≤ 191) := by
  have hr := rnums a
  by_cases h : 194 ≤ a ∧ a ≤ 244
  · obtain ⟨h1, h2, h3, h4⟩ := cls h
    simp only [ubeg, full, List.length_cons, List.length_nil, List.getD_cons_zero, List.getD_cons_succ, h1, h2, h3]
    rw [Bool.eq_iff_iff]
    simp
    omega
  · obtain ⟨h1, h2⟩ := cls0 ha h
    by_cases h5 : 128 ≤ a
    · simp only [ubeg, full, List.length_cons, List.length_nil, List.getD_cons_zero, List.getD_cons_succ, h2.2 h5]
      rw [Bool.eq_iff_iff]
      simp
      omega
    · rw [Bool.eq_iff_iff]
      simp [ubeg]
      omega
theorem dec1 {a : Int} (ha : 0 ≤ a ∧ a ≤ 255) : dec [a] = if a < 128 then (a, 1) else (65533, 1) := by
  by_cases h : 194 ≤ a ∧ a ≤ 244
  · obtain ⟨h1, h2, h3, h4⟩ := cls h
    have hr := rnums a
    simp only [dec, List.length_cons, List.length_nil, List.getD_cons_zero, List.getD_cons_succ, h1, h2, h3]
    rw [if_neg (by omega), if_neg (by omega), if_pos (by omega), if_neg (by omega)]
  · obtain ⟨h1, h2⟩ := cls0 ha h
    simp only [dec, List.length_cons, List.length_nil, List.getD_cons_zero]
    rw [if_neg (by omega), if_pos h1]
    split
    · rw [if_neg (by omega)]
    · rw [if_pos (by omega)]
theorem dec2 {a b : Int} (ha : 194 ≤ a ∧ a ≤ 244) : dec [a, b] = if a < 224 ∧ rlo a ≤ b ∧ b ≤ rhi a then (a % 32 * 64 + b % 64, 2) else (65533, 1) := by
  obtain ⟨h1, h2, h3, h4⟩ := cls ha
  have hr := rnums a
  simp only [dec, List.length_cons, List.length_nil, List.getD_cons_zero, List.getD_cons_succ, h1, h2, h3]
  rw [if_neg (by omega), if_neg (by omega)]
  by_cases h : a < 224
  · rw [if_neg (by omega)]
    by_cases h5 : rlo a ≤ b ∧ b ≤ rhi a
    · rw [if_neg (by omega), if_pos (by omega), if_pos ⟨h, h5⟩]
    · rw [if_pos (by omega), if_neg (by omega)]
  · rw [if_pos (by omega), if_neg (by omega)]
theorem dec3 {a b c : Int} (ha : 224 ≤ a ∧ a ≤ 244) : dec [a, b, c] = if a < 240 ∧ rlo a ≤ b ∧ b ≤ rhi a ∧ 128 ≤ c ∧ c ≤ 191 then (a % 16 * 4096 + b % 64 * 64 + c % 64, 3) else (65533, 1) := by
  obtain ⟨h1, h2, h3, h4⟩ := cls (a := a) (by omega)
  have hr := rnums a
  simp only [dec, List.length_cons, List.length_nil, List.getD_cons_zero, List.getD_cons_succ, h1, h2, h3]
  rw [if_neg (by omega), if_neg (by omega)]
  by_cases h : a < 240
  · rw [if_neg (by omega)]
    by_cases h5 : rlo a ≤ b ∧ b ≤ rhi a
    · rw [if_neg (by omega), if_neg (by omega)]
      by_cases h6 : 128 ≤ c ∧ c ≤ 191
      · rw [if_neg (by omega), if_pos (by omega), if_pos (by omega)]
      · rw [if_pos (by omega), if_neg (by omega)]
    · rw [if_pos (by omega), if_neg (by omega)]
  · rw [if_pos (by omega), if_neg (by omega)]
theorem dec4 {a b c d : Int} (ha : 240 ≤ a ∧ a ≤ 244) : dec [a, b, c, d] = if rlo a ≤ b ∧ b ≤ rhi a ∧ 128 ≤ c ∧ c ≤ 191 ∧ 128 ≤ d ∧ d ≤ 191 then (a % 8 * 262144 + b % 64 * 4096 + c % 64 * 64 + d % 64, 4)
    else (65533, 1) := by
  obtain ⟨h1, h2, h3, h4⟩ := cls (a := a) (by omega)
  have hr := rnums a
  simp only [dec, List.length_cons, List.length_nil, List.getD_cons_zero, List.getD_cons_succ, h1, h2, h3]
  rw [if_neg (by omega), if_neg (by omega), if_neg (by omega)]
  by_cases h5 : rlo a ≤ b ∧ b ≤ rhi a
  · rw [if_neg (by omega), if_neg (by omega)]
    by_cases h6 : 128 ≤ c ∧ c ≤ 191
    · rw [if_neg (by omega), if_neg (by omega)]
      by_cases h7 : 128 ≤ d ∧ d ≤ 191
      · rw [if_neg (by omega), if_pos (by omega)]
      · rw [if_pos (by omega), if_neg (by omega)]
    · rw [if_pos (by omega), if_neg (by omega)]
  · rw [if_pos (by omega), if_neg (by omega)]
/-- The same step, told in the open. -/
def one (b : Int) : List Int × List Int := if b < 128 then ([], [b]) else if 194 ≤ b ∧ b ≤ 244 then ([b], []) else ([], [65533])
theorem ustepA_one {b : Int} (hb : 0 ≤ b ∧ b ≤ 255) : ustepA [] b = one b := by
  unfold ustepA one
  rw [List.nil_append, dec1 hb, ubeg1 hb]
  by_cases h : b < 128
  · rw [if_pos h, if_pos h]
    simp
    omega
  · rw [if_neg h, if_neg h]
    simp
theorem rstepB_one {out : List Int} {b : Int} (hb : 0 ≤ b ∧ b ≤ 255) : rstepB out b = ((one b).1, out ++ (one b).2) := by
  unfold rstepB one
  rw [ubeg1 hb]
  split
  · rfl
  · simp only [decide_eq_true_eq]
    split <;> simp
def good (q : List Int) : Option Int :=
  if (dec q).2 = (q.length : Int) ∧ ((dec q).1 ≠ 65533 ∨ 1 < (dec q).2) then some (dec q).1 else none
theorem goOn_cons (r b : Int) (l : List Int) (hb : 0 ≤ b ∧ b ≤ 255) : goOn r (b :: l) = if 128 ≤ b ∧ b ≤ 191 then goOn (r * 64 + b % 64) l else none := by
  rw [goOn]
  by_cases h : 128 ≤ b ∧ b ≤ 191
  · rw [if_pos (by omega), if_pos h]
  · rw [if_neg (by omega), if_neg h]
theorem wholeF_2 {l : List Int} (h : 192 ≤ l.getD 0 0 ∧ l.getD 0 0 < 224) : wholeF l = if (l.length : Int) = 2 then match goOn (l.getD 0 0 % 32) (l.drop 1) with
    | some r => (r, decide (128 ≤ r) && may r)
    | none => (0, false) else (0, false) := by simp only [wholeF]; rw [if_pos h]; rfl
theorem wholeF_3 {l : List Int} (h : 224 ≤ l.getD 0 0 ∧ l.getD 0 0 < 240) : wholeF l = if (l.length : Int) = 3 then match goOn (l.getD 0 0 % 16) (l.drop 1) with
    | some r => (r, decide (2048 ≤ r) && may r)
    | none => (0, false) else (0, false) := by simp only [wholeF]; rw [if_neg (by omega), if_pos h]; rfl
theorem wholeF_4 {l : List Int} (h : 240 ≤ l.getD 0 0 ∧ l.getD 0 0 < 248) : wholeF l = if (l.length : Int) = 4 then match goOn (l.getD 0 0 % 8) (l.drop 1) with
    | some r => (r, decide (65536 ≤ r) && may r)
    | none => (0, false) else (0, false) := by simp only [wholeF]; rw [if_neg (by omega), if_neg (by omega), if_pos h]; rfl
theorem may_iff (r : Int) : may r = true ↔ 0 ≤ r ∧ r ≤ 1114111 ∧ (r < 55296 ∨ 57343 < r) := by simp [may]; omega
/-- A whole form's law. -/
def wlaw (q : List Int) : Prop := (wholeF q).2 = (good q).isSome ∧ ∀ r, good q = some r → (wholeF q).1 = r
theorem wlaw_none {q : List Int} (h1 : (wholeF q).2 = false) (h2 : good q = none) : wlaw q := by
  refine ⟨by rw [h1, h2]; rfl, fun r h => by rw [h2] at h; cases h⟩
theorem wlaw_some {q : List Int} {r : Int} (h1 : wholeF q = (r, true)) (h2 : good q = some r) : wlaw q := by
  refine ⟨by rw [h1, h2]; rfl, fun r' h => by rw [h2] at h; rw [h1]; exact Option.some.inj h⟩
theorem fin_false {n : Nat} {least r0 : Int} {l : List Int} (h : ∀ r, goOn r0 l = some r → ¬ (least ≤ r ∧ 0 ≤ r ∧ r ≤ 1114111 ∧ (r < 55296 ∨ 57343 < r))) : ((match goOn r0 l with
    | some r => (r, decide (least ≤ r) && may r)
    | none => (0, false)) : Int × Bool).2 = false := by
  split
  · rename_i r hr
    have := h r hr
    rw [← may_iff] at this
    simp only
    cases hm : may r
    · simp
    · rw [hm] at this; simp at this; simp; omega
  · rfl
theorem fin_true {least r0 r : Int} {l : List Int} (h : goOn r0 l = some r) (h2 : least ≤ r ∧ 0 ≤ r ∧ r ≤ 1114111 ∧ (r < 55296 ∨ 57343 < r)) : ((match goOn r0 l with
    | some r => (r, decide (least ≤ r) && may r)
    | none => (0, false)) : Int × Bool) = (r, true) := by
  rw [h]
  simp only
  rw [(may_iff r).2 h2.2, decide_eq_true h2.1]
  rfl
theorem wlaw2 {a b : Int} (ha : 194 ≤ a ∧ a ≤ 244) (hb : 0 ≤ b ∧ b ≤ 255) : wlaw [a, b] := by
  have hl := rlohi a
  have hd := dec2 (b := b) ha
  by_cases h : a < 224
  · have hw := wholeF_2 (l := [a, b]) (by simp; omega)
    simp only [List.length_cons, List.length_nil, List.getD_cons_zero, List.drop_succ_cons, List.drop_zero] at hw
    rw [if_pos (by omega)] at hw
    by_cases h5 : 128 ≤ b ∧ b ≤ 191
    · have hg : goOn (a % 32) [b] = some (a % 32 * 64 + b % 64) := by rw [goOn_cons _ _ _ hb, if_pos h5]; rfl
      refine wlaw_some (r := a % 32 * 64 + b % 64) (hw.trans (fin_true hg (by omega))) ?_
      rw [if_pos (by omega)] at hd
      unfold good
      rw [hd, if_pos (by simp)]
    · refine wlaw_none (by rw [hw]; exact fin_false (n := 0) fun r hr => by rw [goOn_cons _ _ _ hb, if_neg h5] at hr; cases hr) ?_
      rw [if_neg (by omega)] at hd
      unfold good
      rw [hd, if_neg (by simp)]
  · have hw : (wholeF [a, b]).2 = false := by
      by_cases h6 : a < 240
      · rw [wholeF_3 (l := [a, b]) (by simp; omega)]; rfl
      · rw [wholeF_4 (l := [a, b]) (by simp; omega)]; rfl
    refine wlaw_none hw ?_
    rw [if_neg (by omega)] at hd
    unfold good
    rw [hd, if_neg (by simp)]
theorem wlaw3 {a b c : Int} (ha : 224 ≤ a ∧ a ≤ 244) (hb : rlo a ≤ b ∧ b ≤ rhi a) (hc : 0 ≤ c ∧ c ≤ 255) : wlaw [a, b, c] := by
  have hl := rlohi a
  have hd := dec3 (b := b) (c := c) ha
  by_cases h : a < 240
  · have hw := wholeF_3 (l := [a, b, c]) (by simp; omega)
    simp only [List.length_cons, List.length_nil, List.getD_cons_zero, List.drop_succ_cons, List.drop_zero] at hw
    rw [if_pos (by omega)] at hw
    by_cases h5 : 128 ≤ c ∧ c ≤ 191
    · have hg : goOn (a % 16) [b, c] = some (a % 16 * 4096 + b % 64 * 64 + c % 64) := by
        rw [goOn_cons _ _ _ (by omega), if_pos (by omega), goOn_cons _ _ _ (by omega), if_pos h5, goOn]; congr 1; omega
      refine wlaw_some (hw.trans (fin_true hg (by omega))) ?_
      rw [if_pos (by omega)] at hd
      unfold good
      rw [hd, if_pos (by simp)]
    · refine wlaw_none (by rw [hw]; exact fin_false (n := 0) fun r hr => by rw [goOn_cons _ _ _ (by omega), if_pos (by omega), goOn_cons _ _ _ (by omega), if_neg h5] at hr; cases hr) ?_
      rw [if_neg (by omega)] at hd
      unfold good
      rw [hd, if_neg (by simp)]
  · have hw : (wholeF [a, b, c]).2 = false := by
      rw [wholeF_4 (l := [a, b, c]) (by simp; omega)]; rfl
    refine wlaw_none hw ?_
    rw [if_neg (by omega)] at hd
    unfold good
    rw [hd, if_neg (by simp)]
theorem wlaw4 {a b c d : Int} (ha : 240 ≤ a ∧ a ≤ 244) (hb : rlo a ≤ b ∧ b ≤ rhi a) (hc : 128 ≤ c ∧ c ≤ 191) (hd0 : 0 ≤ d ∧ d ≤ 255) : wlaw [a, b, c, d] := by
  have hl := rlohi a
  have hd := dec4 (b := b) (c := c) (d := d) ha
  have hw := wholeF_4 (l := [a, b, c, d]) (by simp; omega)
  simp only [List.length_cons, List.length_nil, List.getD_cons_zero, List.drop_succ_cons, List.drop_zero] at hw
  rw [if_pos (by omega)] at hw
  by_cases h5 : 128 ≤ d ∧ d ≤ 191
  · have hg : goOn (a % 8) [b, c, d] = some (a % 8 * 262144 + b % 64 * 4096 + c % 64 * 64 + d % 64) := by
      rw [goOn_cons _ _ _ (by omega), if_pos (by omega), goOn_cons _ _ _ (by omega), if_pos hc, goOn_cons _ _ _ hd0, if_pos h5, goOn]; congr 1; omega
    refine wlaw_some (hw.trans (fin_true hg (by omega))) ?_
    rw [if_pos (by omega)] at hd
    unfold good
    rw [hd, if_pos (by simp)]
  · refine wlaw_none (by rw [hw]; exact fin_false (n := 0) fun r hr => by rw [goOn_cons _ _ _ (by omega), if_pos (by omega), goOn_cons _ _ _ (by omega), if_pos hc, goOn_cons _ _ _ hd0, if_neg h5] at hr; cases hr) ?_
    rw [if_neg (by omega)] at hd
    unfold good
    rw [hd, if_neg (by simp)]
/-- What bytes that begin a rune are. -/
theorem ubeg_inv {p : List Int} (hk : inK .u8 p) (h : ubeg p = true) : (∃ a, p = [a] ∧ 194 ≤ a ∧ a ≤ 244) ∨ (∃ a b, p = [a, b] ∧ (224 ≤ a ∧ a ≤ 244) ∧ rlo a ≤ b ∧ b ≤ rhi a) ∨
    (∃ a b c, p = [a, b, c] ∧ (240 ≤ a ∧ a ≤ 244) ∧ (rlo a ≤ b ∧ b ≤ rhi a) ∧ 128 ≤ c ∧ c ≤ 191) := by
  match p, hk, h with
  | [], _, h => rw [ubeg0] at h; cases h
  | [a], hk, h =>
    have ha := hk.u8 (n := a) (by simp)
    rw [ubeg1 ha, decide_eq_true_eq] at h
    exact .inl ⟨a, rfl, h⟩
  | [a, b], hk, h =>
    have ha := hk.u8 (n := a) (by simp)
    rw [ubeg2 ha, decide_eq_true_eq] at h
    exact .inr (.inl ⟨a, b, rfl, by omega, by omega⟩)
  | [a, b, c], hk, h =>
    have ha := hk.u8 (n := a) (by simp)
    rw [ubeg3 ha, decide_eq_true_eq] at h
    exact .inr (.inr ⟨a, b, c, rfl, by omega, by omega, by omega⟩)
  | _ :: _ :: _ :: _ :: _, _, h => rw [ubeg4 (by simp)] at h; cases h
theorem wlaw_ubeg {p : List Int} {x : Int} (hk : inK .u8 p) (h : ubeg p = true) (hx : 0 ≤ x ∧ x ≤ 255) : wlaw (p ++ [x]) := by
  rcases ubeg_inv hk h with ⟨a, rfl, ha⟩ | ⟨a, b, rfl, ha, hb⟩ | ⟨a, b, c, rfl, ha, hb, hc⟩
  · exact wlaw2 ha hx
  · exact wlaw3 ha hb hx
  · exact wlaw4 ha hb hc hx
theorem ustep_eq {p : List Int} {b : Int} (hb : 0 ≤ b ∧ b ≤ 255) : ustep p b = if ubeg p = false then one b else match good (p ++ [b]) with
    | some r => ([], [r])
    | none => if ubeg (p ++ [b]) = true then (p ++ [b], []) else ((one b).1, 65533 :: (one b).2) := by
  unfold ustep good
  rw [ustepA_one hb]
  split
  · rfl
  · split
    · rfl
    · rfl
theorem rstep_eq {p : List Int} {b : Int} (hk : inK .u8 p) (hb : 0 ≤ b ∧ b ≤ 255) : rstep p b = ustep p b := by
  rw [ustep_eq hb]
  unfold rstep
  rw [rstepB_one hb, rstepB_one hb]
  cases h : ubeg p
  · rw [if_neg (by simp), if_pos rfl]
    rfl
  · have hl : 0 < p.length := by
      rcases ubeg_inv hk h with ⟨a, rfl, _⟩ | ⟨a, b, rfl, _⟩ | ⟨a, b, c, rfl, _⟩ <;> simp
    rw [if_pos ⟨hl, rfl⟩]
    obtain ⟨w1, w2⟩ := wlaw_ubeg hk h hb
    cases hg : good (p ++ [b]) with
    | none => rw [hg] at w1; simp [w1]
    | some r => rw [hg] at w1; simp [w1, w2 r hg]
end Go.Proofs.YteemmpghpdaloaaDoor
