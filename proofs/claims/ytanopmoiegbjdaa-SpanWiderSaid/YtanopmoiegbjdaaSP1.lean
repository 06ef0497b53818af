/- What the document keeps. -/
import Derived.Test.YtanopmoiegbjdaaS4
namespace Dd
open Go
theorem qLow_ok {s : SSpan} (h : 0 ≤ s.lo ∧ s.lo ≤ s.hi ∧ s.hi < 18446744073709551616) : 0 ≤ (F_qLow s).lo ∧ (F_qLow s).lo ≤ (F_qLow s).hi ∧ (F_qLow s).hi < 18446744073709551616 := by
  unfold F_qLow
  by_cases c : s.hi > 4294967295
  · rw [decide_eq_true c, cond_true]; decide
  · rw [decide_eq_false c]; exact h
end Dd
