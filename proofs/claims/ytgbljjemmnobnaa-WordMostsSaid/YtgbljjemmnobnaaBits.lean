/-
  What the bits of a 64 bit word come to as numbers: the stamp, the lock and the absence of a word by division.
  No condition but that the numbers are words. No program in sight.
-/
import Derived.Laws.BitsAllLaws
import Derived.OpenShut
namespace Go.Proofs.Ytgbljjemmnobnaa.Bits
open Go

theorem and_or_add : ∀ (n x y : Nat), x < 2 ^ n → (x &&& y) + (x ||| y) = x + y
  | 0, x, y, h => by
    have : x = 0 := by simp at h; exact h
    subst this; simp
  | n + 1, x, y, h => by
    have ih := and_or_add n (x / 2) (y / 2) (by rw [Nat.pow_succ] at h; omega)
    rw [← Nat.and_div_two, ← Nat.or_div_two] at ih
    have a := @Nat.and_mod_two_eq_one x y
    have b := @Nat.or_mod_two_eq_one x y
    omega

theorem and_not_add : ∀ (n x y : Nat), x < 2 ^ n → y < 2 ^ n → (x &&& (2 ^ n - 1 - y)) + (x &&& y) = x
  | 0, x, y, h, g => by
    have : x = 0 := by simp at h; exact h
    subst this; simp
  | n + 1, x, y, h, g => by
    have hp : 2 ^ (n + 1) = 2 * 2 ^ n := by rw [Nat.pow_succ]; omega
    have ih := and_not_add n (x / 2) (y / 2) (by omega) (by omega)
    have e : (2 ^ (n + 1) - 1 - y) / 2 = 2 ^ n - 1 - y / 2 := by omega
    have p := @Nat.and_div_two x (2 ^ (n + 1) - 1 - y)
    have q := @Nat.and_div_two x y
    rw [e] at p
    have a := @Nat.and_mod_two_eq_one x (2 ^ (n + 1) - 1 - y)
    have b := @Nat.and_mod_two_eq_one x y
    have c : (2 ^ (n + 1) - 1 - y) % 2 = 1 ↔ y % 2 = 0 := by omega
    rw [← p, ← q] at ih
    omega

variable {a : Int}
theorem nat_stamp (x : Nat) : x &&& (18446744073709551615 - 13835058055282163712) = x % 4611686018427387904 := Nat.and_two_pow_sub_one_eq_mod x 62
theorem nat_low (x : Nat) : x &&& 2147483647 = x % 2147483648 := Nat.and_two_pow_sub_one_eq_mod x 31
theorem nat_unlock (x : Nat) : x &&& (18446744073709551615 - 9223372036854775808) = x % 9223372036854775808 := Nat.and_two_pow_sub_one_eq_mod x 63
theorem nat_63 (x : Nat) : x &&& 9223372036854775808 = x / 9223372036854775808 % 2 * 9223372036854775808 := nat_bit 63 x
theorem nat_62 (x : Nat) : x &&& 4611686018427387904 = x / 4611686018427387904 % 2 * 4611686018427387904 := nat_bit 62 x

theorem stamp (h0 : 0 ≤ a) (h1 : a ≤ 18446744073709551615) : bits .andNot .u64 a 13835058055282163712 = a % 4611686018427387904 := by
  rw [u64_andNot a _ h0 (by omega) (by decide) (by decide), show (13835058055282163712 : Int).toNat = 13835058055282163712 from rfl, nat_stamp]
  omega
theorem low (h0 : 0 ≤ a) (h1 : a ≤ 18446744073709551615) : bits .and .u64 a 2147483647 = a % 2147483648 := by
  rw [u64_and a _ h0 (by omega) (by decide) (by decide), show (2147483647 : Int).toNat = 2147483647 from rfl, nat_low]
  omega
theorem unlock (h0 : 0 ≤ a) (h1 : a ≤ 18446744073709551615) : bits .andNot .u64 a 9223372036854775808 = a % 9223372036854775808 := by
  rw [u64_andNot a _ h0 (by omega) (by decide) (by decide), show (9223372036854775808 : Int).toNat = 9223372036854775808 from rfl, nat_unlock]
  omega
theorem and63 (h0 : 0 ≤ a) (h1 : a ≤ 18446744073709551615) : bits .and .u64 a 9223372036854775808 = a / 9223372036854775808 * 9223372036854775808 := by
  rw [u64_and a _ h0 (by omega) (by decide) (by decide), show (9223372036854775808 : Int).toNat = 9223372036854775808 from rfl, nat_63]
  omega
theorem and62 (h0 : 0 ≤ a) (h1 : a ≤ 18446744073709551615) : bits .and .u64 a 4611686018427387904 = a / 4611686018427387904 % 2 * 4611686018427387904 := by
  rw [u64_and a _ h0 (by omega) (by decide) (by decide), show (4611686018427387904 : Int).toNat = 4611686018427387904 from rfl, nat_62]
  omega
theorem lock (h0 : 0 ≤ a) (h1 : a ≤ 18446744073709551615) : bits .or .u64 a 9223372036854775808 = a % 9223372036854775808 + 9223372036854775808 := by
  rw [u64_or a _ h0 (by omega) (by decide) (by decide), show (9223372036854775808 : Int).toNat = 9223372036854775808 from rfl]
  have := and_or_add 64 a.toNat 9223372036854775808 (by omega)
  rw [nat_63] at this
  omega
theorem absent (h0 : 0 ≤ a) (h1 : a ≤ 18446744073709551615) : bits .or .u64 a 4611686018427387904 = a + (1 - a / 4611686018427387904 % 2) * 4611686018427387904 := by
  rw [u64_or a _ h0 (by omega) (by decide) (by decide), show (4611686018427387904 : Int).toNat = 4611686018427387904 from rfl]
  have := and_or_add 64 a.toNat 4611686018427387904 (by omega)
  rw [nat_62] at this
  omega
theorem present (h0 : 0 ≤ a) (h1 : a ≤ 18446744073709551615) : bits .andNot .u64 a 4611686018427387904 = a - (a / 4611686018427387904 % 2) * 4611686018427387904 := by
  rw [u64_andNot a _ h0 (by omega) (by decide) (by decide), show (4611686018427387904 : Int).toNat = 4611686018427387904 from rfl]
  have h := and_not_add 64 a.toNat 4611686018427387904 (by omega) (by decide)
  rw [nat_62, show 2 ^ 64 - 1 - 4611686018427387904 = 18446744073709551615 - 4611686018427387904 from rfl] at h
  omega
theorem join {e s : Int} (h0 : 0 ≤ e) (h1 : e ≤ 2147483647) (g0 : 0 ≤ s) (g1 : s ≤ 2147483647) : bits .or .u64 (e * 2147483648) s = e * 2147483648 + s := by
  rw [u64_or _ _ (by omega) (by omega) g0 (by omega)]
  rw [nat_join 31 _ _ (by rw [show 2 ^ 31 = 2147483648 from rfl]; omega) (by rw [show 2 ^ 31 = 2147483648 from rfl]; omega)]
  omega
theorem wrap {x : Int} (h0 : 0 ≤ x) (h1 : x ≤ 18446744073709551615) : IntKind.u64.wrap x = x := by
  rw [IntKind.wrap_u64]; omega

end Go.Proofs.Ytgbljjemmnobnaa.Bits
