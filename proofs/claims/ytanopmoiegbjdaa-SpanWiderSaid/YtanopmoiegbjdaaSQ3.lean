/- Numbers in range. -/
import Derived.Test.YtanopmoiegbjdaaSQ2
import Derived.Test.YtanopmoiegbjdaaSA2
namespace Dd
open Go Go.RowKit
set_option linter.unusedVariables false
set_option linter.unusedSimpArgs false
theorem nat64 {a : Int} (w : (Lit.int .u64 a).wf = true) : ∃ A : Nat, a = (A : Int) ∧ A < 18446744073709551616 := by
  simp only [Lit.wf, Bool.and_eq_true, decide_eq_true_eq] at w
  have h : IntKind.u64.min = 0 ∧ IntKind.u64.max = 18446744073709551615 := ⟨rfl, rfl⟩
  rw [h.1, h.2] at w
  exact ⟨a.toNat, by omega, by omega⟩

theorem c1_eq (x y : Nat) : ((x : Int) == (y : Int)) = (x == y) := Bool.eq_iff_iff.2 (by rw [beq_iff_eq, beq_iff_eq]; omega)
theorem c2_eq (x y : Nat) : ((x : Int) != (y : Int)) = (x != y) := by simp only [bne, c1_eq]
theorem decide_gt (x y : Nat) : decide ((x : Int) > (y : Int)) = decide (x > y) := decide_eq_decide.2 (by omega)
theorem decide_ge (x y : Nat) : decide ((x : Int) ≥ (y : Int)) = decide (x ≥ y) := decide_eq_decide.2 (by omega)
theorem decide_lt' (x y : Nat) : decide ((x : Int) < (y : Int)) = decide (x < y) := decide_eq_decide.2 (by omega)
theorem decide_le' (x y : Nat) : decide ((x : Int) ≤ (y : Int)) = decide (x ≤ y) := decide_eq_decide.2 (by omega)

/-! Try# the document's tests -/
theorem rLow_nat (A : Nat) : F_rLow (A : Int) = ((A % 4294967296 : Nat) : Int) := tmod_nat A 4294967296
theorem sg64 (A : Nat) : sg true A = (((A + 9223372036854775808) % 18446744073709551616 : Nat) : Int) - 9223372036854775808 := by rw [sg_true]; omega
theorem sg32 (A : Nat) : sg false A = (((A + 2147483648) % 4294967296 : Nat) : Int) - 2147483648 := by rw [sg_false]; omega
theorem lw_of {w : Bool} {A : Nat} (h : A < Mw w) : lw w A = A := by
  cases w
  · exact Nat.mod_eq_of_lt h
  · rfl
theorem Mw_pos (w : Bool) : 0 < Mw w := by cases w <;> decide
theorem lt64 {w : Bool} {A : Nat} (h : A < Mw w) : A < 18446744073709551616 := Nat.lt_of_lt_of_le h (Mw_le w)
theorem Mw_or (w : Bool) : Mw w = 18446744073709551616 ∨ Mw w = 4294967296 := by
  cases w
  · exact .inr rfl
  · exact .inl rfl
theorem or_ltM (w : Bool) {A B : Nat} (hA : A < Mw w) (hB : B < Mw w) : A ||| B < Mw w := by
  rw [Mw_eq] at *; exact Nat.or_lt_two_pow hA hB
theorem xor_ltM (w : Bool) {A B : Nat} (hA : A < Mw w) (hB : B < Mw w) : A ^^^ B < Mw w := by
  rw [Mw_eq] at *; exact Nat.xor_lt_two_pow hA hB
theorem true_of {b x : Bool} (h1 : b = true) (h2 : x = true) : (bif b then x else false) = true := by rw [h1, h2]; rfl
theorem eq_of_nat {x : Int} {A B : Nat} (h : x = (A : Int)) (e : A = B) : (x == (B : Int)) = true := by rw [h, e]; simp
end Dd
