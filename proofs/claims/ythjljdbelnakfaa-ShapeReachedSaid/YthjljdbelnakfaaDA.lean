/- Arithmetic of the typed forms. -/
import Derived.Test.YthjljdbelnakfaaD14
import Derived.IntWalk
namespace Dd
open Go

@[reducible] def andI (k : IntKind) (a b : Int) : Int := bitsI (· &&& ·) k a b
@[reducible] def orI (k : IntKind) (a b : Int) : Int := bitsI (· ||| ·) k a b
@[reducible] def xorI (k : IntKind) (a b : Int) : Int := bitsI (· ^^^ ·) k a b
@[reducible] def shlI (k : IntKind) (a b : Int) : Int := k.wrap (a * 2 ^ (min b.toNat k.bits))
@[reducible] def shrI (k : IntKind) (a b : Int) : Int := a.fdiv (2 ^ (min b.toNat k.bits))

theorem and_mask (k : IntKind) (n : Nat) (hn : n ≤ k.bits) (a : Int) (hk : ∀ x : Int, 0 ≤ x → x < 2 ^ n → k.wrap x = x) : bitsI (· &&& ·) k a ((2 ^ n - 1 : Nat) : Int) = a % 2 ^ n := by
  unfold bitsI
  have hp : 2 ^ n ≤ 2 ^ k.bits := Nat.pow_le_pow_right (by omega) hn
  have h1 : 0 < 2 ^ n := Nat.two_pow_pos n
  have e1 : (((2 ^ n - 1 : Nat) : Int) % ((2 ^ k.bits : Nat) : Int)).toNat = 2 ^ n - 1 := by
    rw [← Int.natCast_emod, Int.toNat_natCast, Nat.mod_eq_of_lt (by omega)]
  rw [e1]
  show k.wrap (((a % ((2 ^ k.bits : Nat) : Int)).toNat &&& (2 ^ n - 1) : Nat) : Int) = _
  rw [Nat.and_two_pow_sub_one_eq_mod]
  have e2 : (((a % ((2 ^ k.bits : Nat) : Int)).toNat % 2 ^ n : Nat) : Int) = a % 2 ^ n := by
    rw [Int.natCast_emod, Int.toNat_of_nonneg (Int.emod_nonneg _ (by omega)), Int.natCast_pow, Int.natCast_pow]
    have hd : ((2 ^ n : Nat) : Int) ∣ ((2 ^ k.bits : Nat) : Int) := Int.natCast_dvd_natCast.2 (Nat.pow_dvd_pow 2 hn)
    exact Int.emod_emod_of_dvd a (by simpa using hd)
  have h2 : (0 : Int) ≤ a % 2 ^ n := Int.emod_nonneg _ (by have := Int.natCast_pow 2 n; omega)
  have h3 : a % 2 ^ n < 2 ^ n := Int.emod_lt_of_pos _ (by have := Int.natCast_pow 2 n; omega)
  rw [e2, hk _ h2 h3]
theorem and_u64_4095 (a : Int) : andI .u64 a 4095 = a % 4096 := and_mask .u64 12 (by decide) a (fun x h1 h2 => IntWalk.u64_in _ (by omega))
theorem and_i64_4095 (a : Int) : andI .i64 a 4095 = a % 4096 := and_mask .i64 12 (by decide) a (fun x h1 h2 => IntWalk.i64_in _ (by omega))
theorem and_i64_255 (a : Int) : andI .i64 a 255 = a % 256 := and_mask .i64 8 (by decide) a (fun x h1 h2 => IntWalk.i64_in _ (by omega))
theorem and_i64_3 (a : Int) : andI .i64 a 3 = a % 4 := and_mask .i64 2 (by decide) a (fun x h1 h2 => IntWalk.i64_in _ (by omega))

theorem wrap_u64 (n : Int) : IntKind.u64.wrap n = n % 18446744073709551616 := by
  simp [IntKind.wrap, IntKind.bits, IntKind.signed]
theorem wrap_u32 (n : Int) : IntKind.u32.wrap n = n % 4294967296 := by
  simp [IntKind.wrap, IntKind.bits, IntKind.signed]
theorem wrap_i64 (n : Int) : IntKind.i64.wrap n = (n + 9223372036854775808) % 18446744073709551616 - 9223372036854775808 := by
  simp [IntKind.wrap, IntKind.bits, IntKind.signed]; omega
theorem tmod_if (a m : Int) : Int.tmod a m = if 0 ≤ a then a % m else -((-a) % m) := by
  split
  · rw [Int.tmod_eq_emod_of_nonneg (by assumption)]
  · rename_i h
    have e : a = -(-a) := by omega
    rw [e, Int.neg_tmod, Int.tmod_eq_emod_of_nonneg (by omega)]
    simp

end Dd
