/- What Low keeps. -/
import Derived.Test.YtanopmoiegbjdaaS2
namespace Dd
open Go
theorem sLow_ok {s : SSpan} (h : 0 ≤ s.lo ∧ s.lo ≤ s.hi ∧ s.hi < 18446744073709551616) : 0 ≤ (F_sLow s).lo ∧ (F_sLow s).lo ≤ (F_sLow s).hi ∧ (F_sLow s).hi < 18446744073709551616 := by
  unfold F_sLow
  by_cases c : s.hi > 4294967295
  · rw [decide_eq_true c, cond_true]; decide
  · rw [decide_eq_false c]; exact h
end Dd
