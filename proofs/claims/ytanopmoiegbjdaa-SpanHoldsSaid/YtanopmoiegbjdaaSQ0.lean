/- Bounds of what an operation comes to. -/
import Derived.Test.YtanopmoiegbjdaaSA3
namespace Dd
open Go
theorem wrap64_nn (n : Int) : 0 ≤ IntKind.u64.wrap n := by rw [wrap_u64]; omega
theorem wrap64_lt (n : Int) : IntKind.u64.wrap n < 18446744073709551616 := by rw [wrap_u64]; omega
theorem wrap32_nn (n : Int) : 0 ≤ IntKind.u32.wrap n := by rw [wrap_u32]; omega
theorem wrap32_lt (n : Int) : IntKind.u32.wrap n < 4294967296 := by rw [wrap_u32]; omega
theorem bits64_nn (f : Nat → Nat → Nat) (a b : Int) : 0 ≤ bitsI f .u64 a b := wrap64_nn _
theorem bits32_nn (f : Nat → Nat → Nat) (a b : Int) : 0 ≤ bitsI f .u32 a b := wrap32_nn _
theorem shr_nn (k : IntKind) (a b : Int) (h : 0 ≤ a) : 0 ≤ shrI k a b := by
  unfold shrI
  rw [Int.fdiv_eq_ediv_of_nonneg _ (Int.pow_nonneg (by decide))]
  exact Int.ediv_nonneg h (Int.pow_nonneg (by decide))
theorem cond_nn {α : Type} {c : Bool} {x y : Int × α} (hx : 0 ≤ x.1) (hy : 0 ≤ y.1) : 0 ≤ (bif c then x else y).1 := by cases c <;> assumption
theorem aDo_nn (op : Int) (w : Bool) {a b : Int} (ha : 0 ≤ a) (hb : 0 ≤ b) : 0 ≤ (F_aDo op w a b).1 := by
  unfold F_aDo
  cases w
  · simp only [cond_false]; exact wrap64_nn _
  · simp only [cond_true]
    unfold F_do64
    repeat' apply cond_nn
    all_goals first
      | exact wrap64_nn _
      | exact bits64_nn _ _ _
      | exact Int.tmod_nonneg _ ha
      | exact shr_nn _ _ _ ha
      | assumption
      | exact Int.le_refl _
end Dd
