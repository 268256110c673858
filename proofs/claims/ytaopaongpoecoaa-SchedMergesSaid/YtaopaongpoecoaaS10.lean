/- Heaps: the plain law: the items stay; Init, Push, Pop. -/
import Derived.Test.YtaopaongpoecoaaS9
set_option linter.unusedVariables false
set_option linter.unusedSimpArgs false
set_option maxRecDepth 10000
namespace Go.Proofs.Ytaopaongpoecoaa
open Go.RowKit
theorem itI_nat {L : List It} {k : Nat} (h : k < L.length) : itI L k = L[k] := by simp [itI, h]
theorem swap_perm {L : List It} {i j : Nat} (hi : i < L.length) (hj : j < L.length) : (swapI L i j).Perm L := by
  unfold swapI
  rw [itI_nat hi, itI_nat hj]
  simp only [Int.toNat_natCast]
  exact List.set_set_perm hi hj
theorem up_perm : ∀ (j : Nat) (L : List It), j < L.length → (upF L j).Perm L := by
  intro j
  induction j using Nat.strongRecOn with
  | _ j ih =>
    intro L hj
    cases j with
    | zero => rw [upF_0]
    | succ i =>
      rw [upF_s]
      split
      · exact (ih _ (by omega) _ (by rw [swapI_len]; omega)).trans (swap_perm (by omega) hj)
      · exact List.Perm.refl _
theorem down_perm (n : Nat) : ∀ (f i : Nat) (L : List It), n - i ≤ f → n ≤ L.length → (downF L i n).Perm L := by
  intro f
  induction f with
  | zero => intro i L hf hn; rw [downF_0 (by omega)]
  | succ f ih =>
    intro i L hf hn
    by_cases hg : n ≤ 2 * i + 1
    · rw [downF_0 hg]
    · obtain ⟨hj1, hj2, _⟩ := kid_spec (L := L) (i := i) (n := n) (by omega)
      cases hc : lessI (itI L (kidF L i n : Nat)) (itI L (i : Nat)) with
      | false => rw [downF_e (by omega) rfl hc]
      | true =>
        rw [downF_s (by omega) rfl hc]
        exact (ih _ _ (by omega) (by rw [swapI_len]; exact hn)).trans (swap_perm (by omega) (by omega))
/-- What stands behind stays. -/
theorem down_keep (n : Nat) : ∀ (f i : Nat) (L : List It), n - i ≤ f → n ≤ L.length → ∀ k : Nat, n ≤ k → itI (downF L i n) k = itI L k := by
  intro f
  induction f with
  | zero => intro i L hf hn k hk; rw [downF_0 (by omega)]
  | succ f ih =>
    intro i L hf hn k hk
    by_cases hg : n ≤ 2 * i + 1
    · rw [downF_0 hg]
    · obtain ⟨hj1, hj2, _⟩ := kid_spec (L := L) (i := i) (n := n) (by omega)
      cases hc : lessI (itI L (kidF L i n : Nat)) (itI L (i : Nat)) with
      | false => rw [downF_e (by omega) rfl hc]
      | true =>
        rw [downF_s (by omega) rfl hc, ih _ _ (by omega) (by rw [swapI_len]; exact hn) k hk, itI_swap (by omega) (by omega), if_neg (by omega), if_neg (by omega)]
theorem init_hp : ∀ (i : Nat) (L : List It), HpF i L.length L → HpF 0 L.length (initF i L) ∧ (initF i L).Perm L := by
  intro i
  induction i with
  | zero => intro L h; exact ⟨h, List.Perm.refl _⟩
  | succ i ih =>
    intro L h
    have hl : (downF L i L.length).length = L.length := downF_len _ _ _ _ (Nat.le_refl _)
    have hd : HpF i L.length (downF L i L.length) := down_hp i L.length _ i L (Nat.le_refl _) (Nat.le_refl _) (fun k hk hkn hm hne => h k hk hkn (by omega)) (fun c hi hm => by omega)
    have := ih (downF L i L.length) (by rw [hl]; exact hd)
    rw [hl] at this
    exact ⟨this.1, this.2.trans (down_perm _ _ _ _ (Nat.le_refl _) (Nat.le_refl _))⟩
theorem init_ok (L : List It) : HpF 0 L.length (initF (L.length / 2) L) ∧ (initF (L.length / 2) L).Perm L := init_hp _ L fun k hk hkn hm => by omega
theorem push_ok {L : List It} (x : It) (h : HpF 0 L.length L) : HpF 0 (L.length + 1) (upF (L ++ [x]) L.length) ∧ (upF (L ++ [x]) L.length).Perm (L ++ [x]) := by
  have hl : (L ++ [x]).length = L.length + 1 := by simp
  have hg : ∀ k : Nat, k < L.length → itI (L ++ [x]) k = itI L k := fun k hk => by simp [itI, List.getElem?_append_left hk]
  refine ⟨?_, up_perm _ _ (by omega)⟩
  rw [← hl]
  refine up_hp _ _ (by omega) (fun k hk hkl hne => ?_) (fun c h0 hc hcl hcp => by omega)
  rw [hg k (by omega), hg _ (by omega)]
  exact h k hk (by omega) (by omega)
/-- The first one is the least. -/
theorem root_le {L : List It} (h : HpF 0 L.length L) : ∀ k : Nat, k < L.length → leI (itI L (0 : Nat)) (itI L k) := by
  intro k
  induction k using Nat.strongRecOn with
  | _ k ih =>
    intro hk
    cases k with
    | zero => exact leI_refl _
    | succ k => exact leI_trans (ih ((k + 1 - 1) / 2) (by omega) (by omega)) (h (k + 1) (by omega) hk (by omega))
theorem pop_ok {L : List It} {k : Nat} (h0 : L.length = k + 1) (h : HpF 0 L.length L) : HpF 0 k ((popF L k).take k) ∧ ((popF L k).take k).length = k ∧ (itI L 0 :: (popF L k).take k).Perm L := by
  have hs : ∀ j : Nat, itI (swapI L ((0 : Nat) : Int) (k : Nat)) j = if j = k then itI L (0 : Nat) else if j = 0 then itI L (k : Nat) else itI L j := fun j => itI_swap (by omega) (by omega)
  have hlen := swapI_len L ((0 : Nat) : Int) (k : Nat)
  have hpl := popF_len L k
  have htl : ((popF L k).take k).length = k := by rw [List.length_take]; omega
  have hg : ∀ j : Nat, j < k → itI ((popF L k).take k) j = itI (popF L k) j := fun j hj => by simp [itI, List.getElem?_take, hj]
  have hd : HpF 0 k (popF L k) := by
    refine down_hp 0 k _ 0 _ (Nat.le_refl _) (by rw [show swapI L 0 (k : Nat) = swapI L ((0 : Nat) : Int) (k : Nat) from rfl, hlen]; omega) (fun j hj hjk _ hne => ?_) (fun c hc => by omega)
    rw [show swapI L 0 (k : Nat) = swapI L ((0 : Nat) : Int) (k : Nat) from rfl, hs, hs, if_neg (by omega), if_neg (by omega), if_neg (by omega), if_neg (by omega)]
    exact h j hj (by omega) (by omega)
  have hlast : itI (popF L k) k = itI L 0 := by
    have := down_keep k _ 0 (swapI L ((0 : Nat) : Int) (k : Nat)) (Nat.le_refl _) (by rw [hlen]; omega) k (Nat.le_refl _)
    rw [hs, if_pos rfl] at this
    exact this
  have hperm : (popF L k).Perm L := (down_perm k _ 0 (swapI L ((0 : Nat) : Int) (k : Nat)) (Nat.le_refl _) (by rw [hlen]; omega)).trans (swap_perm (by omega) (by omega))
  refine ⟨fun j hj hjk hm => ?_, htl, ?_⟩
  · rw [hg _ hjk, hg _ (by omega)]; exact hd j hj hjk hm
  · have e : popF L k = (popF L k).take k ++ [itI L 0] := by
      conv => lhs; rw [← List.take_append_drop k (popF L k)]
      congr 1
      rw [← hlast, itI_nat (by omega)]
      rw [List.drop_eq_getElem_cons (by omega), List.drop_eq_nil_of_le (by omega)]
    have : (itI L 0 :: (popF L k).take k).Perm (popF L k) := by
      conv => rhs; rw [e]
      exact (List.perm_append_singleton _ _).symm
    exact this.trans hperm
end Go.Proofs.Ytaopaongpoecoaa
