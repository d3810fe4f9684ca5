/- Numbers as the walks spell them: shifts, masks and complements of the unsigned kinds. -/
import Derived.Test.YtlofjhcjjcohfaaWk
namespace Iv
open Go Go.RowKit

theorem not64 {x : Nat} (h : x < 18446744073709551616) : 18446744073709551615 ^^^ x = 18446744073709551615 - x := by
  refine Nat.eq_of_testBit_eq fun i => ?_
  have e1 : (18446744073709551615 : Nat) = 2 ^ 64 - 1 := by decide
  have e2 : 18446744073709551615 - x = 2 ^ 64 - (x + 1) := by omega
  rw [e2, Nat.testBit_xor, e1, Nat.testBit_two_pow_sub_one, Nat.testBit_two_pow_sub_succ (by omega)]
  by_cases hi : i < 64
  · simp [hi]
  · have : x.testBit i = false := Nat.testBit_lt_two_pow (Nat.lt_of_lt_of_le h (by
      rw [show (18446744073709551616 : Nat) = 2 ^ 64 from by decide]
      exact Nat.pow_le_pow_right (by omega) (by omega)))
    simp [hi, this]

theorem zig_up {m : Int} (h : inI64 m) (h0 : ¬ m < 0) : IntKind.u64.wrap (IntKind.u64.wrap m * 2) = ((zig m : Nat) : Int) := by
  unfold inI64 at h
  unfold zig
  rw [if_neg h0, IntKind.wrap_u64, IntKind.wrap_u64]
  omega
theorem zig_down {m : Int} (h : inI64 m) (h0 : m < 0) : bits .xor .u64 IntKind.u64.max (IntKind.u64.wrap (IntKind.u64.wrap m * 2)) = ((zig m : Nat) : Int) := by
  unfold inI64 at h
  have e : IntKind.u64.wrap (IntKind.u64.wrap m * 2) = (((2 * m + 18446744073709551616).toNat : Nat) : Int) := by
    rw [IntKind.wrap_u64, IntKind.wrap_u64]
    omega
  rw [e]
  have hx := u64_xor_nat 18446744073709551615 ((2 * m + 18446744073709551616).toNat) (by omega) (by omega)
  rw [not64 (by omega)] at hx
  refine Eq.trans ?_ (hx.trans ?_)
  · rfl
  · unfold zig
    rw [if_pos h0]
    omega

theorem or128 (b : Nat) (h : b < 256) : b ||| 128 = b % 128 + 128 := by
  have : ∀ b : Fin 256, b.val ||| 128 = b.val % 128 + 128 := by decide +kernel
  exact this ⟨b, h⟩
/-- 'byte(u) | 128' -/
theorem byte_or128 (u : Nat) : bits .or .u8 ((u : Int) % 256) 128 = ((u % 128 + 128 : Nat) : Int) := by
  have h := u8_or_nat (u % 256) 128 (by omega) (by omega)
  rw [or128 _ (by omega)] at h
  refine Eq.trans ?_ (h.trans ?_)
  · rfl
  · omega

theorem pow7 (k : Nat) : (2 : Nat) ^ (7 * k) = 128 ^ k := by rw [Nat.pow_mul]
theorem small_shift {x k : Nat} (hx : x < 128) (hk : k ≤ 9) (h9 : k = 9 → x ≤ 1) : x * 128 ^ k < 18446744073709551616 := by
  by_cases h : k = 9
  · have := h9 h
    subst h
    have : (128 : Nat) ^ 9 = 9223372036854775808 := by decide
    rw [this]
    omega
  · have h1 : (128 : Nat) ^ k ≤ 128 ^ 8 := Nat.pow_le_pow_right (by omega) (by omega)
    have h2 : (128 : Nat) ^ 8 = 72057594037927936 := by decide
    have h3 : x * 128 ^ k ≤ 127 * 128 ^ 8 := Nat.mul_le_mul (by omega) h1
    omega
/-- 'u |= uint64(x & 127) << (7 * i)' -/
theorem or_step {acc k x : Nat} (hacc : acc < 128 ^ k) (hk : k ≤ 9) (h9 : k = 9 → x % 128 ≤ 1) :
    bits .or .u64 (acc : Int) (IntKind.u64.wrap ((x : Int) % 128 * 2 ^ (7 * k))) = ((acc + x % 128 * 128 ^ k : Nat) : Int) ∧ acc + x % 128 * 128 ^ k < 18446744073709551616 := by
  have hs := small_shift (x := x % 128) (by omega) hk h9
  have hp : (128 : Nat) ^ k ≤ 128 ^ 9 := Nat.pow_le_pow_right (by omega) hk
  have h9' : (128 : Nat) ^ 9 = 9223372036854775808 := by decide
  have e : ((x : Int) % 128 * 2 ^ (7 * k)) = ((x % 128 * 128 ^ k : Nat) : Int) := by
    rw [← pow7]
    push_cast
    rfl
  have hw : IntKind.u64.wrap ((x : Int) % 128 * 2 ^ (7 * k)) = ((x % 128 * 128 ^ k : Nat) : Int) := by
    rw [e, IntKind.wrap_u64]
    omega
  have hj : acc ||| x % 128 * 128 ^ k = acc + x % 128 * 128 ^ k := by
    rw [Nat.or_comm, nat_join (7 * k) (x % 128 * 128 ^ k) acc (by rw [pow7]; exact Nat.mul_mod_left _ _) (by rw [pow7]; exact hacc), Nat.add_comm]
  refine ⟨?_, ?_⟩
  · rw [hw, u64_or_nat acc _ (by omega) hs, hj]
  · have hm : acc + x % 128 * 128 ^ k < 128 ^ k + x % 128 * 128 ^ k := by omega
    by_cases h : k = 9
    · have := h9 h
      subst h
      rw [h9'] at hacc hm hs ⊢
      omega
    · have h1 : (128 : Nat) ^ k ≤ 128 ^ 8 := Nat.pow_le_pow_right (by omega) (by omega)
      have h2 : (128 : Nat) ^ 8 = 72057594037927936 := by decide
      have h3 : x % 128 * 128 ^ k ≤ 127 * 128 ^ 8 := Nat.mul_le_mul (by omega) h1
      omega
end Iv
