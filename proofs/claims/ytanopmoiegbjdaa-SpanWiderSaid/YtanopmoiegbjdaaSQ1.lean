/- Bits and numbers. -/
import Derived.Test.YtanopmoiegbjdaaDA
namespace Dd
open Go

/-! Try# bits -/
theorem xor_and_add : ∀ (n a b : Nat), a < 2 ^ n → b < 2 ^ n → (a ^^^ b) + 2 * (a &&& b) = a + b ∧ (a ||| b) = (a ^^^ b) + (a &&& b)
  | 0, a, b, ha, hb => by
    have h1 : a = 0 := by simpa using ha
    have h2 : b = 0 := by simpa using hb
    subst h1; subst h2; exact ⟨rfl, rfl⟩
  | n + 1, a, b, ha, hb => by
    have ha' : a / 2 < 2 ^ n := by rw [Nat.pow_succ] at ha; omega
    have hb' : b / 2 < 2 ^ n := by rw [Nat.pow_succ] at hb; omega
    obtain ⟨h1, h2⟩ := xor_and_add n (a / 2) (b / 2) ha' hb'
    rw [← Nat.xor_div_two, ← Nat.and_div_two] at h1
    rw [← Nat.xor_div_two, ← Nat.and_div_two, ← Nat.or_div_two] at h2
    have e1 := Nat.xor_mod_two_pow (a := a) (b := b) (n := 1)
    have e2 := Nat.and_mod_two_pow (a := a) (b := b) (n := 1)
    have e3 := Nat.or_mod_two_pow (a := a) (b := b) (n := 1)
    simp only [Nat.pow_one] at e1 e2 e3
    have m1 : a % 2 = 0 ∨ a % 2 = 1 := by omega
    have m2 : b % 2 = 0 ∨ b % 2 = 1 := by omega
    rcases m1 with m1 | m1 <;> rcases m2 with m2 | m2 <;> rw [m1, m2] at e1 e2 e3 <;> simp only [Nat.reduceXor, Nat.reduceAnd, Nat.reduceOr] at e1 e2 e3 <;> omega

theorem lt_two (a b : Nat) : ∃ n, a < 2 ^ n ∧ b < 2 ^ n :=
  ⟨a + b, Nat.lt_of_le_of_lt (Nat.le_add_right _ _) Nat.lt_two_pow_self, Nat.lt_of_le_of_lt (Nat.le_add_left _ _) Nat.lt_two_pow_self⟩

theorem xor_eq (a b : Nat) : (a ^^^ b) + 2 * (a &&& b) = a + b := by
  obtain ⟨n, h1, h2⟩ := lt_two a b; exact (xor_and_add n a b h1 h2).1
theorem or_eq (a b : Nat) : (a ||| b) = (a ^^^ b) + (a &&& b) := by
  obtain ⟨n, h1, h2⟩ := lt_two a b; exact (xor_and_add n a b h1 h2).2

theorem ones_xor (n b : Nat) (h : b < 2 ^ n) : (2 ^ n - 1) ^^^ b = 2 ^ n - 1 - b := by
  have e := xor_eq (2 ^ n - 1) b
  have e2 : (2 ^ n - 1) &&& b = b := by
    rw [Nat.and_comm, Nat.and_two_pow_sub_one_eq_mod, Nat.mod_eq_of_lt h]
  rw [e2] at e
  omega

theorem xor_top (k a : Nat) (h : a < 2 ^ (k + 1)) : a ^^^ 2 ^ k = (a + 2 ^ k) % 2 ^ (k + 1) := by
  have e := xor_eq a (2 ^ k)
  rw [Nat.pow_succ] at h ⊢
  have hp : 0 < 2 ^ k := Nat.two_pow_pos k
  have e2 : a &&& 2 ^ k = if a < 2 ^ k then 0 else 2 ^ k := by
    have ht : a.testBit k = decide (¬ a < 2 ^ k) := by
      rw [Nat.testBit_eq_decide_div_mod_eq]
      by_cases hlt : a < 2 ^ k
      · rw [Nat.div_eq_of_lt hlt]; simp [hlt]
      · have : a / 2 ^ k = 1 := by
          rw [Nat.div_eq_iff hp]; omega
        rw [this]; simp [hlt]
    apply Nat.eq_of_testBit_eq
    intro i
    rw [Nat.testBit_and, Nat.testBit_two_pow]
    by_cases hi : k = i
    · subst hi
      rw [ht]
      split <;> simp_all [Nat.testBit_two_pow]
    · simp only [hi, decide_false, Bool.and_false]
      split
      · simp
      · rw [Nat.testBit_two_pow]; simp [hi]
  rw [e2] at e
  split at e
  · rw [Nat.mod_eq_of_lt (by omega)]; omega
  · have : a + 2 ^ k = (a - 2 ^ k) + 2 ^ k * 2 := by omega
    rw [this, Nat.add_mod_right, Nat.mod_eq_of_lt (by omega)]; omega

theorem xor_low (a m : Nat) : a ^^^ (a / 2 ^ m * 2 ^ m) = a % 2 ^ m := by
  apply Nat.eq_of_testBit_eq
  intro i
  rw [Nat.testBit_xor, Nat.testBit_mul_two_pow, Nat.testBit_div_two_pow, Nat.testBit_mod_two_pow]
  by_cases h : i < m
  · have : ¬ (m ≤ i) := by omega
    simp [h, this]
  · have h2 : m ≤ i := by omega
    have e : i - m + m = i := by omega
    simp [h, h2, e]

/-! Try# the kinds' own operations, of numbers in range -/
theorem w64 (n : Nat) : IntKind.u64.wrap (n : Int) = ((n % 18446744073709551616 : Nat) : Int) := by rw [wrap_u64]; omega
theorem w32 (n : Nat) : IntKind.u32.wrap (n : Int) = ((n % 4294967296 : Nat) : Int) := by rw [wrap_u32]; omega

theorem bits64 (f : Nat → Nat → Nat) (A B : Nat) (hA : A < 18446744073709551616) (hB : B < 18446744073709551616) (hf : f A B < 18446744073709551616) : bitsI f .u64 (A : Int) (B : Int) = ((f A B : Nat) : Int) := by
  have e1 : (((A : Int) % ((2 ^ IntKind.u64.bits : Nat) : Int)).toNat) = A := by
    show (((A : Int) % ((2 ^ 64 : Nat) : Int)).toNat) = A
    omega
  have e2 : (((B : Int) % ((2 ^ IntKind.u64.bits : Nat) : Int)).toNat) = B := by
    show (((B : Int) % ((2 ^ 64 : Nat) : Int)).toNat) = B
    omega
  unfold bitsI
  rw [e1, e2, w64, Nat.mod_eq_of_lt hf]
theorem bits32 (f : Nat → Nat → Nat) (A B : Nat) (hA : A < 4294967296) (hB : B < 4294967296) (hf : f A B < 4294967296) : bitsI f .u32 (A : Int) (B : Int) = ((f A B : Nat) : Int) := by
  have e1 : (((A : Int) % ((2 ^ IntKind.u32.bits : Nat) : Int)).toNat) = A := by
    show (((A : Int) % ((2 ^ 32 : Nat) : Int)).toNat) = A
    omega
  have e2 : (((B : Int) % ((2 ^ IntKind.u32.bits : Nat) : Int)).toNat) = B := by
    show (((B : Int) % ((2 ^ 32 : Nat) : Int)).toNat) = B
    omega
  unfold bitsI
  rw [e1, e2, w32, Nat.mod_eq_of_lt hf]

theorem and_lt (A B : Nat) (M : Nat) (hA : A < M) : A &&& B < M := Nat.lt_of_le_of_lt Nat.and_le_left hA
theorem or_lt64 {A B : Nat} (hA : A < 18446744073709551616) (hB : B < 18446744073709551616) : A ||| B < 18446744073709551616 := Nat.or_lt_two_pow (n := 64) hA hB
theorem xor_lt64 {A B : Nat} (hA : A < 18446744073709551616) (hB : B < 18446744073709551616) : A ^^^ B < 18446744073709551616 := Nat.xor_lt_two_pow (n := 64) hA hB
theorem or_lt32 {A B : Nat} (hA : A < 4294967296) (hB : B < 4294967296) : A ||| B < 4294967296 := Nat.or_lt_two_pow (n := 32) hA hB
theorem xor_lt32 {A B : Nat} (hA : A < 4294967296) (hB : B < 4294967296) : A ^^^ B < 4294967296 := Nat.xor_lt_two_pow (n := 32) hA hB

theorem and64 {A B : Nat} (hA : A < 18446744073709551616) (hB : B < 18446744073709551616) : andI .u64 (A : Int) (B : Int) = ((A &&& B : Nat) : Int) := bits64 _ A B hA hB (and_lt A B _ hA)
theorem or64 {A B : Nat} (hA : A < 18446744073709551616) (hB : B < 18446744073709551616) : orI .u64 (A : Int) (B : Int) = ((A ||| B : Nat) : Int) := bits64 _ A B hA hB (or_lt64 hA hB)
theorem xor64 {A B : Nat} (hA : A < 18446744073709551616) (hB : B < 18446744073709551616) : xorI .u64 (A : Int) (B : Int) = ((A ^^^ B : Nat) : Int) := bits64 _ A B hA hB (xor_lt64 hA hB)
theorem and32 {A B : Nat} (hA : A < 4294967296) (hB : B < 4294967296) : andI .u32 (A : Int) (B : Int) = ((A &&& B : Nat) : Int) := bits32 _ A B hA hB (and_lt A B _ hA)
theorem or32 {A B : Nat} (hA : A < 4294967296) (hB : B < 4294967296) : orI .u32 (A : Int) (B : Int) = ((A ||| B : Nat) : Int) := bits32 _ A B hA hB (or_lt32 hA hB)
theorem xor32 {A B : Nat} (hA : A < 4294967296) (hB : B < 4294967296) : xorI .u32 (A : Int) (B : Int) = ((A ^^^ B : Nat) : Int) := bits32 _ A B hA hB (xor_lt32 hA hB)

theorem shl64 {A k : Nat} (hk : k ≤ 64) : shlI .u64 (A : Int) (k : Int) = ((A * 2 ^ k % 18446744073709551616 : Nat) : Int) := by
  unfold shlI
  rw [Int.toNat_natCast, show min k IntKind.u64.bits = k from Nat.min_eq_left hk, ← w64]
  congr 1
theorem shl32 {A k : Nat} (hk : k ≤ 32) : shlI .u32 (A : Int) (k : Int) = ((A * 2 ^ k % 4294967296 : Nat) : Int) := by
  unfold shlI
  rw [Int.toNat_natCast, show min k IntKind.u32.bits = k from Nat.min_eq_left hk, ← w32]
  congr 1
theorem shr64 {A k : Nat} (hk : k ≤ 64) : shrI .u64 (A : Int) (k : Int) = ((A / 2 ^ k : Nat) : Int) := by
  unfold shrI
  rw [Int.toNat_natCast, show min k IntKind.u64.bits = k from Nat.min_eq_left hk, Int.fdiv_eq_ediv_of_nonneg _ (Int.pow_nonneg (by decide))]
  simp
theorem shr32 {A k : Nat} (hk : k ≤ 32) : shrI .u32 (A : Int) (k : Int) = ((A / 2 ^ k : Nat) : Int) := by
  unfold shrI
  rw [Int.toNat_natCast, show min k IntKind.u32.bits = k from Nat.min_eq_left hk, Int.fdiv_eq_ediv_of_nonneg _ (Int.pow_nonneg (by decide))]
  simp
theorem sar (k : Nat) (x : Int) (hk : k ≤ 64) : shrI .i64 x (k : Int) = x / 2 ^ k := by
  unfold shrI
  rw [Int.toNat_natCast, show min k IntKind.i64.bits = k from Nat.min_eq_left hk, Int.fdiv_eq_ediv_of_nonneg _ (Int.pow_nonneg (by decide))]

theorem tmod_nat (A B : Nat) : Int.tmod (A : Int) (B : Int) = ((A % B : Nat) : Int) := by
  rw [Int.tmod_eq_emod_of_nonneg (by omega)]; simp
theorem tdiv_nat (A B : Nat) : Int.tdiv (A : Int) (B : Int) = ((A / B : Nat) : Int) := by
  rw [Int.tdiv_eq_ediv_of_nonneg (by omega)]; simp
theorem and_m32 (A : Nat) (h : A < 18446744073709551616) : andI .u64 (A : Int) 4294967295 = ((A % 4294967296 : Nat) : Int) := by
  have := and64 (A := A) (B := 4294967295) h (by decide)
  rw [show ((4294967295 : Nat) : Int) = 4294967295 from rfl] at this
  rw [this, show (4294967295 : Nat) = 2 ^ 32 - 1 from rfl, Nat.and_two_pow_sub_one_eq_mod]

end Dd
