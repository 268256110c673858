/- Bits of numbers, as arithmetic. -/
import Derived.Test.YtaopaongpoecoaaAb21
set_option linter.unusedVariables false
set_option linter.unusedSimpArgs false
namespace Go.Proofs.Ytaopaongpoecoaa
open Go.RowKit

theorem ofInt_toNat (w : Nat) (a : Int) : (((BitVec.ofInt w a).toNat : Nat) : Int) = a % (2 ^ w : Int) := by
  rw [BitVec.toNat_ofInt, Int.toNat_of_nonneg (Int.emod_nonneg _ (by exact_mod_cast Nat.ne_of_gt (Nat.two_pow_pos w)))]
  simp
theorem ofInt_mask (w m : Nat) (h : m ≤ w) : (BitVec.ofInt w (2 ^ m - 1)).toNat = 2 ^ m - 1 := by
  have h2 : (2 : Nat) ^ m ≤ 2 ^ w := Nat.pow_le_pow_right (by omega) h
  have h3 := Nat.two_pow_pos m
  have h4 := ofInt_toNat w (2 ^ m - 1)
  have h6 : (1 : Int) ≤ 2 ^ m := by exact_mod_cast h3
  have h7 : (2 : Int) ^ m ≤ 2 ^ w := by exact_mod_cast h2
  rw [Int.emod_eq_of_lt (by omega) (by omega)] at h4
  have : ((2 ^ m - 1 : Nat) : Int) = 2 ^ m - 1 := by rw [Int.natCast_sub h3]; simp
  omega
theorem andMask (w m : Nat) (a : Int) (h : m ≤ w) : (((BitVec.ofInt w a &&& BitVec.ofInt w (2 ^ m - 1)).toNat : Nat) : Int) = a % (2 ^ m : Int) := by
  rw [BitVec.toNat_and, ofInt_mask w m h, Nat.and_two_pow_sub_one_eq_mod]
  have h2 := ofInt_toNat w a
  rw [Int.natCast_emod, h2]
  simp only [Int.natCast_pow, Int.cast_ofNat_Int]
  exact Int.emod_emod_of_dvd a (by exact_mod_cast Nat.pow_dvd_pow 2 h)
theorem wrap_small (k : IntKind) (m : Nat) (x : Int) (h : m < k.bits) : k.wrap (x % (2 ^ m : Int)) = x % (2 ^ m : Int) := by
  have h0 : (0 : Int) < 2 ^ m := by exact_mod_cast Nat.two_pow_pos m
  have h1 := Int.emod_nonneg x (Int.ne_of_gt h0)
  have h2 := Int.emod_lt_of_pos x h0
  have h3 : (2 : Int) ^ m ≤ 2 ^ (k.bits - 1) := by exact_mod_cast Nat.pow_le_pow_right (by omega) (by omega)
  have h4 : (2 : Int) ^ (k.bits - 1) ≤ 2 ^ k.bits := by exact_mod_cast Nat.pow_le_pow_right (by omega) (by omega)
  unfold IntKind.wrap
  simp only
  rw [Int.emod_eq_of_lt h1 (by omega)]
  rw [if_neg]
  simp
  intro _
  omega
/-- A number's last bits. -/
theorem and_mask (k : IntKind) (m : Nat) (a : Int) (h : m < k.bits) : k.wrap ((BitVec.ofInt k.bits a &&& BitVec.ofInt k.bits (2 ^ m - 1)).toNat : Nat) = a % (2 ^ m : Int) := by
  rw [andMask k.bits m a (Nat.le_of_lt h), wrap_small k m a h]
theorem and7_u8 (a : Int) : IntKind.u8.wrap ((BitVec.ofInt IntKind.u8.bits a &&& BitVec.ofInt IntKind.u8.bits 7).toNat : Nat) = a % 8 := and_mask .u8 3 a (by decide)
theorem and15_u8 (a : Int) : IntKind.u8.wrap ((BitVec.ofInt IntKind.u8.bits a &&& BitVec.ofInt IntKind.u8.bits 15).toNat : Nat) = a % 16 := and_mask .u8 4 a (by decide)
theorem and31_u8 (a : Int) : IntKind.u8.wrap ((BitVec.ofInt IntKind.u8.bits a &&& BitVec.ofInt IntKind.u8.bits 31).toNat : Nat) = a % 32 := and_mask .u8 5 a (by decide)
theorem and63_u8 (a : Int) : IntKind.u8.wrap ((BitVec.ofInt IntKind.u8.bits a &&& BitVec.ofInt IntKind.u8.bits 63).toNat : Nat) = a % 64 := and_mask .u8 6 a (by decide)
theorem and127_u8 (a : Int) : IntKind.u8.wrap ((BitVec.ofInt IntKind.u8.bits a &&& BitVec.ofInt IntKind.u8.bits 127).toNat : Nat) = a % 128 := and_mask .u8 7 a (by decide)
/-- Bits side by side. -/
theorem or_add (w m : Nat) (x y : Int) (hx : x % 2 ^ m = 0) (h0 : 0 ≤ x) (hy : 0 ≤ y) (hy2 : y < 2 ^ m) (hw : x + y < 2 ^ w) : (((BitVec.ofInt w x ||| BitVec.ofInt w y).toNat : Nat) : Int) = x + y := by
  have h1 := ofInt_toNat w x
  have h2 := ofInt_toNat w y
  rw [Int.emod_eq_of_lt h0 (by omega)] at h1
  rw [Int.emod_eq_of_lt hy (by omega)] at h2
  rw [BitVec.toNat_or]
  generalize (BitVec.ofInt w x).toNat = a at h1 ⊢
  generalize (BitVec.ofInt w y).toNat = b at h2 ⊢
  subst h1 h2
  have hb : b < 2 ^ m := by exact_mod_cast hy2
  have ha : a % 2 ^ m = 0 := by exact_mod_cast hx
  have : a = 2 ^ m * (a / 2 ^ m) := by
    have := Nat.div_add_mod a (2 ^ m)
    omega
  rw [this, ← Nat.two_pow_add_eq_or_of_lt hb]
  simp
theorem or_i32 (m : Nat) (x y : Int) (hx : x % 2 ^ m = 0) (h0 : 0 ≤ x) (hy : 0 ≤ y) (hy2 : y < 2 ^ m) (hw : x + y ≤ 2147483647) : IntKind.i32.wrap ((BitVec.ofInt IntKind.i32.bits x ||| BitVec.ofInt IntKind.i32.bits y).toNat : Nat) = x + y := by
  rw [or_add IntKind.i32.bits m x y hx h0 hy hy2 (by simp only [IntKind.bits]; omega), wI32 (by omega) (by omega)]
theorem or_u8 (m : Nat) (x y : Int) (hx : x % 2 ^ m = 0) (h0 : 0 ≤ x) (hy : 0 ≤ y) (hy2 : y < 2 ^ m) (hw : x + y ≤ 255) : IntKind.u8.wrap ((BitVec.ofInt IntKind.u8.bits x ||| BitVec.ofInt IntKind.u8.bits y).toNat : Nat) = x + y := by
  rw [or_add IntKind.u8.bits m x y hx h0 hy hy2 (by simp only [IntKind.bits]; omega), wU8 (by omega) (by omega)]
theorem and192_u8 (a : Int) : IntKind.u8.wrap ((BitVec.ofInt IntKind.u8.bits a &&& BitVec.ofInt IntKind.u8.bits 192).toNat : Nat) = a % 256 / 64 * 64 := by
  have h1 := ofInt_toNat 8 a
  have key : ∀ b : Fin 256, (b.val &&& 192) = b.val / 64 * 64 := by decide +kernel
  rw [BitVec.toNat_and]
  have h2 : (BitVec.ofInt IntKind.u8.bits 192).toNat = 192 := by decide
  rw [h2]
  change (((BitVec.ofInt IntKind.u8.bits a).toNat : Nat) : Int) = a % 256 at h1
  have h3 : (BitVec.ofInt IntKind.u8.bits a).toNat < 256 := (BitVec.ofInt IntKind.u8.bits a).isLt
  generalize (BitVec.ofInt IntKind.u8.bits a).toNat = b at h1 h3 ⊢
  have h4 := key ⟨b, h3⟩
  simp only at h4
  rw [h4, wU8] <;> omega
theorem shl_i32_6 (a : Int) : IntKind.i32.wrap (a * 2 ^ min (6 : Int).toNat IntKind.i32.bits) = IntKind.i32.wrap (a * 64) := rfl

end Go.Proofs.Ytaopaongpoecoaa
