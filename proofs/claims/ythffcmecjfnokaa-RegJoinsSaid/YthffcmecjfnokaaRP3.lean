/- RegWithin: what it computes is true. -/
import Derived.Test.YthffcmecjfnokaaR6
import Derived.Test.YthffcmecjfnokaaRP2
namespace Dd
open Go Go.RowKit Go.Proofs
set_option linter.unusedVariables false

theorem within_def (r : SReg) (b c d e : Int) (h : -4000000 < r.lo + b ∧ r.lo + b < 4000000 ∧ -4000000 < r.hi + b ∧ r.hi + b < 4000000 ∧ -4000000 < c ∧ c < 4000000) : F_Within r b c d e =
    bif F_rPointer r.kind && decide (d ≤ r.lo + b) && decide (r.hi + b + c ≤ e) then (r.lo + b, r.hi + b + c, true) else (0, 0, false) := by
  have e1 : IntKind.i64.wrap (r.lo + b) = r.lo + b := by rw [wrap_i64]; omega
  have e2 : IntKind.i64.wrap (r.hi + b) = r.hi + b := by rw [wrap_i64]; omega
  have e3 : IntKind.i64.wrap (r.hi + b + c) = r.hi + b + c := by rw [wrap_i64]; omega
  rw [within_eq]
  unfold F_rWithin
  rw [e1, e2, e3]
  have d1 : decide (r.lo + b < d) = !decide (d ≤ r.lo + b) := by rw [← decide_not]; congr 1; simp
  have d2 : decide (r.hi + b + c > e) = !decide (r.hi + b + c ≤ e) := by rw [← decide_not]; congr 1; simp
  rw [d1, d2]
  cases F_rPointer r.kind
  · rfl
  cases decide (d ≤ r.lo + b)
  · rfl
  cases decide (r.hi + b + c ≤ e) <;> rfl

theorem RegWithin_true (a0 : SRaw) (a1 a2 a3 a4 a5 : Int) : F_RegWithin a0 a1 a2 a3 a4 a5 = true := by
  have hr := made_in a0
  have h1 := tmod_in a1 10000 (by decide)
  have h3 := tmod_in a3 1000000 (by decide)
  have h4 := tmod_in a4 1000000 (by decide)
  unfold F_RegWithin
  rw [and_i64_4095, and_i64_4095]
  generalize Int.tmod a1 10000 = o at h1 ⊢
  generalize Int.tmod a3 1000000 = l at h3 ⊢
  generalize Int.tmod a4 1000000 = u at h4 ⊢
  have hz : 0 ≤ a2 % 4096 ∧ a2 % 4096 < 4096 := by omega
  have hmo : 0 ≤ a5 % 4096 ∧ a5 % 4096 < 4096 := by omega
  generalize a2 % 4096 = z at hz ⊢
  generalize a5 % 4096 = w at hmo ⊢
  generalize (F_made a0).1 = r at hr ⊢
  have hmn : 0 ≤ mnI z w ∧ mnI z w ≤ z := by simp only [mnI]; split <;> omega
  generalize mnI z w = y at hmn ⊢
  have w1 : IntKind.i64.wrap (l - w) = l - w := by rw [wrap_i64]; omega
  have w2 : IntKind.i64.wrap (u + w) = u + w := by rw [wrap_i64]; omega
  rw [w1, w2, shown_true, within_def r o z l u (by omega), within_def r o z (l - w) (u + w) (by omega), within_def r o y l u (by omega)]
  cases hp : F_rPointer r.kind
  · rfl
  cases q1 : decide (l ≤ r.lo + o)
  · rfl
  cases q2 : decide (r.hi + o + z ≤ u)
  · rfl
  have q1 := of_decide_eq_true q1
  have q2 := of_decide_eq_true q2
  have d1 : decide (l - w ≤ r.lo + o) = true := decide_eq_true (by omega)
  have d2 : decide (r.hi + o + z ≤ u + w) = true := decide_eq_true (by omega)
  have d3 : decide (r.hi + o + y ≤ u) = true := decide_eq_true (by omega)
  rw [d1, d2, d3]
  have w3 : IntKind.i64.wrap (r.hi + o + z - z) = r.hi + o := by rw [wrap_i64]; omega
  have w4 : IntKind.i64.wrap (r.hi + o + y) = r.hi + o + y := by rw [wrap_i64]; omega
  have w5 : IntKind.i64.wrap (r.hi + o + z - (r.lo + o)) = r.hi - r.lo + z := by rw [wrap_i64]; omega
  have d4 : decide (r.hi - r.lo + z ≥ z) = true := decide_eq_true (by omega)
  simp only [Bool.and_self, cond_true, cond_false, Bool.not_true, w3, w4, w5, d4, beq_self_eq_true]
  rfl

end Dd
