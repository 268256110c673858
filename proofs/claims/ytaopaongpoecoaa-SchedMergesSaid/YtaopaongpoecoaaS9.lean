/- Heaps: the plain law. -/
import Derived.Test.YtaopaongpoecoaaS8
set_option linter.unusedVariables false
set_option linter.unusedSimpArgs false
set_option maxRecDepth 10000
namespace Go.Proofs.Ytaopaongpoecoaa
open Go.RowKit
/-- One is not behind another. -/
def leI (a b : It) : Prop := lessI b a = false
theorem leI_iff (a b : It) : leI a b ↔ (a.at' < b.at' ∨ (a.at' = b.at' ∧ a.n ≤ b.n)) := by
  unfold leI lessI
  split <;> simp <;> omega
theorem leI_trans {a b c : It} (h1 : leI a b) (h2 : leI b c) : leI a c := by
  rw [leI_iff] at *; omega
theorem leI_refl (a : It) : leI a a := by rw [leI_iff]; omega
theorem less_le {a b : It} (h : lessI a b = true) : leI a b := by
  rw [leI_iff]
  unfold lessI at h
  split at h <;> simp at h <;> omega
theorem itI_swap {L : List It} {i j k : Nat} (hi : i < L.length) (hj : j < L.length) : itI (swapI L i j) k = if k = j then itI L i else if k = i then itI L j else itI L k := by
  simp only [itI, swapI, Int.toNat_natCast, List.getD_eq_getElem?_getD, List.getElem?_set, List.length_set]
  by_cases h1 : k = j
  · subst h1; simp [hj]
  · by_cases h2 : k = i
    · subst h2
      have : ¬ j = k := fun e => h1 e.symm
      simp [h1, this, hi]
    · have a1 : ¬ j = k := fun e => h1 e.symm
      have a2 : ¬ i = k := fun e => h2 e.symm
      simp [h1, h2, a1, a2]
/-- In order, as a heap, from the m-th on. -/
def HpF (m n : Nat) (L : List It) : Prop := ∀ k : Nat, 0 < k → k < n → m ≤ (k - 1) / 2 → leI (itI L ((k - 1) / 2 : Nat)) (itI L k)
theorem up_hp : ∀ (j : Nat) (L : List It), j < L.length → (∀ k : Nat, 0 < k → k < L.length → k ≠ j → leI (itI L ((k - 1) / 2 : Nat)) (itI L k)) →
    (∀ c : Nat, 0 < j → 0 < c → c < L.length → (c - 1) / 2 = j → leI (itI L ((j - 1) / 2 : Nat)) (itI L c)) → HpF 0 L.length (upF L j) := by
  intro j
  induction j using Nat.strongRecOn with
  | _ j ih =>
    intro L hj h1 h2
    cases j with
    | zero => rw [upF_0]; exact fun k hk hl _ => h1 k hk hl (by omega)
    | succ i =>
      rw [upF_s]
      have hp : i / 2 < L.length := by omega
      split
      · rename_i hless
        have hle := less_le hless
        have hlen := swapI_len L (i / 2 : Nat) (i + 1 : Nat)
        have hs : ∀ k : Nat, itI (swapI L (i / 2 : Nat) (i + 1 : Nat)) k = if k = i + 1 then itI L (i / 2 : Nat) else if k = i / 2 then itI L (i + 1 : Nat) else itI L k := fun k => itI_swap hp hj
        have := ih (i / 2) (by omega) (swapI L (i / 2 : Nat) (i + 1 : Nat)) (by rw [hlen]; exact hp) ?_ ?_
        · rw [hlen] at this; exact this
        · intro k hk hkl hne
          rw [hlen] at hkl
          rw [hs, hs]
          by_cases c1 : k = i + 1
          · subst c1
            rw [if_neg (by omega), if_pos (by omega), if_pos rfl]
            exact hle
          · rw [if_neg c1, if_neg hne]
            by_cases c2 : (k - 1) / 2 = i + 1
            · rw [if_pos c2]
              have := h2 k (by omega) hk hkl c2
              simpa using this
            · rw [if_neg c2]
              by_cases c3 : (k - 1) / 2 = i / 2
              · rw [if_pos c3]
                have := h1 k hk hkl c1
                rw [c3] at this
                exact leI_trans hle this
              · rw [if_neg c3]; exact h1 k hk hkl c1
        · intro c hp0 hc0 hcl hcp
          rw [hlen] at hcl
          have hpp := h1 (i / 2) hp0 hp (by omega)
          rw [hs, hs, if_neg (by omega), if_neg (by omega)]
          by_cases c1 : c = i + 1
          · rw [if_pos c1]; exact hpp
          · rw [if_neg c1, if_neg (by omega)]
            have := h1 c hc0 hcl c1
            rw [hcp] at this
            exact leI_trans hpp this
      · rename_i hless
        intro k hk hkl _
        by_cases c1 : k = i + 1
        · subst c1
          have : leI (itI L (i / 2 : Nat)) (itI L (i + 1 : Nat)) := by simpa [leI] using hless
          simpa using this
        · exact h1 k hk hkl c1
theorem kid_spec {L : List It} {i n : Nat} (h : 2 * i + 1 < n) : (kidF L i n = 2 * i + 1 ∨ kidF L i n = 2 * i + 2) ∧ kidF L i n < n ∧ ∀ c : Nat, c < n → (c = 2 * i + 1 ∨ c = 2 * i + 2) → leI (itI L (kidF L i n)) (itI L c) := by
  unfold kidF
  split
  · rename_i hc
    refine ⟨.inr rfl, hc.1, fun c hcn hcc => ?_⟩
    rcases hcc with rfl | rfl
    · exact less_le hc.2
    · exact leI_refl _
  · rename_i hc
    refine ⟨.inl rfl, h, fun c hcn hcc => ?_⟩
    rcases hcc with rfl | rfl
    · exact leI_refl _
    · have : ¬ lessI (itI L (2 * i + 2 : Nat)) (itI L (2 * i + 1 : Nat)) = true := fun hx => hc ⟨hcn, hx⟩
      simpa [leI] using this
theorem down_hp (m n : Nat) : ∀ (f i : Nat) (L : List It), n - i ≤ f → n ≤ L.length → (∀ k : Nat, 0 < k → k < n → m ≤ (k - 1) / 2 → (k - 1) / 2 ≠ i → leI (itI L ((k - 1) / 2 : Nat)) (itI L k)) →
    (∀ c : Nat, 0 < i → m ≤ (i - 1) / 2 → 0 < c → c < n → (c - 1) / 2 = i → leI (itI L ((i - 1) / 2 : Nat)) (itI L c)) → HpF m n (downF L i n) := by
  intro f
  induction f with
  | zero =>
    intro i L hf hn h1 h2
    rw [downF_0 (by omega)]
    exact fun k hk hkn hm => h1 k hk hkn hm (by omega)
  | succ f ih =>
    intro i L hf hn h1 h2
    by_cases hg : n ≤ 2 * i + 1
    · rw [downF_0 hg]
      exact fun k hk hkn hm => h1 k hk hkn hm (by omega)
    · obtain ⟨hj1, hj2, hj3⟩ := kid_spec (L := L) (i := i) (n := n) (by omega)
      generalize hj : kidF L i n = j at hj1 hj2 hj3
      cases hc : lessI (itI L (j : Nat)) (itI L (i : Nat)) with
      | false =>
        rw [downF_e (by omega) hj hc]
        intro k hk hkn hm
        by_cases c1 : (k - 1) / 2 = i
        · rw [c1]
          have : leI (itI L i) (itI L j) := hc
          exact leI_trans this (hj3 k hkn (by omega))
        · exact h1 k hk hkn hm c1
      | true =>
        rw [downF_s (by omega) hj hc]
        have hle := less_le hc
        have hlen := swapI_len L (i : Nat) (j : Nat)
        have hs : ∀ k : Nat, itI (swapI L (i : Nat) (j : Nat)) k = if k = j then itI L (i : Nat) else if k = i then itI L (j : Nat) else itI L k := fun k => itI_swap (by omega) (by omega)
        refine ih j _ (by omega) (by rw [hlen]; exact hn) ?_ ?_
        · intro k hk hkn hm hne
          rw [hs, hs, if_neg hne]
          by_cases c1 : k = j
          · subst c1
            rw [if_pos rfl, if_pos (by omega)]
            exact hle
          · rw [if_neg c1]
            by_cases c2 : k = i
            · subst c2
              rw [if_neg (by omega), if_pos rfl]
              exact h2 j hk hm (by omega) hj2 (by omega)
            · rw [if_neg c2]
              by_cases c3 : (k - 1) / 2 = i
              · rw [if_pos c3]; exact hj3 k hkn (by omega)
              · rw [if_neg c3]; exact h1 k hk hkn hm c3
        · intro c hj0 hm hc0 hcn hcp
          rw [hs, hs, if_neg (by omega), if_pos (by omega), if_neg (by omega), if_neg (by omega)]
          have := h1 c hc0 hcn (by omega) (by omega)
          rwa [hcp] at this
end Go.Proofs.Ytaopaongpoecoaa
