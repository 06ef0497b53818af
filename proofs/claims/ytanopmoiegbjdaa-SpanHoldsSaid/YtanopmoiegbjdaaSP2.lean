/- Right spans stay right. -/
import Derived.Test.YtanopmoiegbjdaaS5
import Derived.Test.YtanopmoiegbjdaaSQ0
namespace Dd
open Go
abbrev OkS (s : SSpan) : Prop := 0 ≤ s.lo ∧ s.lo ≤ s.hi ∧ s.hi < 18446744073709551616
def Ok4 (f : SFour) : Prop := (0 ≤ f.a ∧ f.a < 18446744073709551616) ∧ (0 ≤ f.b ∧ f.b < 18446744073709551616) ∧ (0 ≤ f.c ∧ f.c < 18446744073709551616) ∧ (0 ≤ f.d ∧ f.d < 18446744073709551616)
theorem okR {a b : Int} (ha : 0 ≤ a ∧ a < 18446744073709551616) (hb : 0 ≤ b ∧ b < 18446744073709551616) : OkS (F_lright a b) := by
  unfold OkS F_lright mnI mxI
  dsimp only
  split <;> split <;> omega
theorem okL1 {f : SFour} (h : Ok4 f) : OkS (F_lspans f).1 := okR h.1 h.2.1
theorem okL2 {f : SFour} (h : Ok4 f) : OkS (F_lspans f).2 := okR h.2.2.1 h.2.2.2
theorem okOf {s : SSpan} (h : OkS s) : OkS (F_lof s) := h
theorem okJ {s t : SSpan} (h : OkS s) (k : OkS t) : OkS (F_sJoin s t) := by
  unfold OkS F_sJoin mnI mxI at *
  dsimp only
  split <;> split <;> omega
theorem okO {n : Int} (h : 0 ≤ n ∧ n < 18446744073709551616) : OkS (F_sOne n) := ⟨h.1, Int.le_refl _, h.2⟩
theorem okA (a b : Int) : 0 ≤ andI .u64 a b ∧ andI .u64 a b < 18446744073709551616 := ⟨wrap64_nn _, wrap64_lt _⟩
theorem lin_nn {s : SSpan} {n : Int} (h : 0 ≤ n) : 0 ≤ F_lin s n := by
  unfold F_lin
  cases (IntKind.u64.wrap ((s.hi : Int) - s.lo) == 18446744073709551615)
  · exact wrap64_nn _
  · exact h
end Dd
