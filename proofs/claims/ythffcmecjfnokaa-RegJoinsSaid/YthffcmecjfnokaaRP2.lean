/- RegBack: what it computes is true. -/
import Derived.Test.YthffcmecjfnokaaR5
import Derived.Test.YthffcmecjfnokaaRP1
namespace Dd
open Go Go.RowKit Go.Proofs
set_option linter.unusedVariables false

theorem near_iff (n : Int) : F_near n = true ↔ (-1048576 ≤ n ∧ n ≤ 1048576) := by
  unfold F_near
  rw [Bool.cond_eq_ite]
  split <;> simp_all <;> omega
theorem move_one (r : SReg) (m : Int) (d : Bool) : F_Move r ⟨m, m⟩ d =
    bif F_rPointer r.kind && F_near (IntKind.i64.wrap m) && F_near (IntKind.i64.wrap (r.lo + (bif d then IntKind.i64.wrap (0 - IntKind.i64.wrap m) else IntKind.i64.wrap m))) && F_near (IntKind.i64.wrap (r.hi + (bif d then IntKind.i64.wrap (0 - IntKind.i64.wrap m) else IntKind.i64.wrap m)))
    then (⟨r.kind, r.num, IntKind.i64.wrap (r.lo + (bif d then IntKind.i64.wrap (0 - IntKind.i64.wrap m) else IntKind.i64.wrap m)), IntKind.i64.wrap (r.hi + (bif d then IntKind.i64.wrap (0 - IntKind.i64.wrap m) else IntKind.i64.wrap m)), r.map⟩, true)
    else (⟨0, ⟨0, 0⟩, 0, 0, 0⟩, false) := by
  rw [move_eq]
  unfold F_rMove
  simp only [beq_self_eq_true, cond_true]
  cases F_rPointer r.kind
  · rfl
  cases F_near (IntKind.i64.wrap m)
  · rfl
  cases d
  · simp only [cond_false, Bool.not_true, Bool.true_and]
    cases F_near (IntKind.i64.wrap (r.lo + IntKind.i64.wrap m))
    · rfl
    cases F_near (IntKind.i64.wrap (r.hi + IntKind.i64.wrap m)) <;> rfl
  · simp only [cond_false, cond_true, Bool.not_true, Bool.true_and]
    cases F_near (IntKind.i64.wrap (r.lo + IntKind.i64.wrap (0 - IntKind.i64.wrap m)))
    · rfl
    cases F_near (IntKind.i64.wrap (r.hi + IntKind.i64.wrap (0 - IntKind.i64.wrap m))) <;> rfl
theorem move_span (r : SReg) (m n : Int) (h : (m == n) = false) (hn : n ≤ 1048576) : F_Move r ⟨m, n⟩ false =
    bif F_rPointer r.kind && F_near (IntKind.i64.wrap (r.lo + IntKind.i64.wrap m)) && F_near (IntKind.i64.wrap (r.hi + IntKind.i64.wrap n))
    then (⟨r.kind, r.num, IntKind.i64.wrap (r.lo + IntKind.i64.wrap m), IntKind.i64.wrap (r.hi + IntKind.i64.wrap n), r.map⟩, true)
    else (⟨0, ⟨0, 0⟩, 0, 0, 0⟩, false) := by
  rw [move_eq]
  unfold F_rMove
  have e : decide (n > 1048576) = false := by simp; omega
  simp only [h, e, cond_false]
  cases F_rPointer r.kind
  · rfl
  simp only [Bool.not_true, cond_false, Bool.true_and]
  cases F_near (IntKind.i64.wrap (r.lo + IntKind.i64.wrap m))
  · rfl
  cases F_near (IntKind.i64.wrap (r.hi + IntKind.i64.wrap n)) <;> rfl

theorem tmod_in (a m : Int) (hm : 0 < m) : -m < Int.tmod a m ∧ Int.tmod a m < m := by
  rw [tmod_if]
  · split
    · have := Int.emod_nonneg a (by omega : m ≠ 0); have := Int.emod_lt_of_pos a hm; omega
    · have := Int.emod_nonneg (-a) (by omega : m ≠ 0); have := Int.emod_lt_of_pos (-a) hm; omega
theorem made_in (x : SRaw) : -2000000 < (F_made x).1.lo ∧ (F_made x).1.lo ≤ (F_made x).1.hi ∧ (F_made x).1.hi < 2000000 := by
  have h1 := tmod_in x.lo 2000000 (by decide)
  have h2 := tmod_in x.hi 2000000 (by decide)
  simp only [F_made, Bool.cond_eq_ite]
  split <;> split <;> split <;> simp only [mnI, mxI] <;> (try split) <;> (try split) <;> omega
theorem eq29 (a : SReg) : veqB (v29 a) (v29 a) = true := by simp [v29, v27, veqB, veqsB]

theorem back1 (r : SReg) (n : Int) (hn : -1000 < n ∧ n < 1000) (hr : -2000000 < r.lo ∧ r.lo ≤ r.hi ∧ r.hi < 2000000) (hA : (F_Move r (F_One (IntKind.u64.wrap n)) false).2 = true) :
    ((F_Move (F_Move r (F_One (IntKind.u64.wrap n)) false).1 (F_One (IntKind.u64.wrap n)) true).2 = true → (F_Move (F_Move r (F_One (IntKind.u64.wrap n)) false).1 (F_One (IntKind.u64.wrap n)) true).1 = r) ∧
    ((F_Move (F_Move r (F_One (IntKind.u64.wrap n)) false).1 (F_One (IntKind.u64.wrap n)) true).2 = false →
      IntKind.i64.wrap ((F_Move r (F_One (IntKind.u64.wrap n)) false).1.lo - n) ≥ -1048576 → IntKind.i64.wrap ((F_Move r (F_One (IntKind.u64.wrap n)) false).1.hi - n) ≤ 1048576 → False) := by
  have ei : IntKind.i64.wrap (IntKind.u64.wrap n) = n := by rw [wrap_u64, wrap_i64]; omega
  have e0 : IntKind.i64.wrap (0 - n) = -n := by rw [wrap_i64]; omega
  have e1 : IntKind.i64.wrap (r.lo + n) = r.lo + n := by rw [wrap_i64]; omega
  have e2 : IntKind.i64.wrap (r.hi + n) = r.hi + n := by rw [wrap_i64]; omega
  have e3 : IntKind.i64.wrap (r.lo + n + -n) = r.lo := by rw [wrap_i64]; omega
  have e4 : IntKind.i64.wrap (r.hi + n + -n) = r.hi := by rw [wrap_i64]; omega
  have e5 : IntKind.i64.wrap (r.lo + n - n) = r.lo := by rw [wrap_i64]; omega
  have e6 : IntKind.i64.wrap (r.hi + n - n) = r.hi := by rw [wrap_i64]; omega
  simp only [F_One, move_one, ei, e1, e2, cond_false] at hA ⊢
  cases hc : (F_rPointer r.kind && F_near n && F_near (r.lo + n) && F_near (r.hi + n)) <;> rw [hc] at hA
  · cases hA
  simp only [cond_true, e0, e3, e4, e5, e6]
  simp only [Bool.and_eq_true] at hc
  obtain ⟨⟨⟨c1, c2⟩, c3⟩, c4⟩ := hc
  rw [c1, c2]
  constructor
  · intro hB
    cases hd : (true && true && F_near r.lo && F_near r.hi) <;> rw [hd] at hB
    · cases hB
    · rfl
  · intro hB h1 h2
    have n1 : F_near r.lo = true := (near_iff _).2 (by omega)
    have n2 : F_near r.hi = true := (near_iff _).2 (by omega)
    rw [n1, n2] at hB
    cases hB

theorem back2 (r : SReg) (m k : Int) (hm : 1 ≤ m ∧ m ≤ 4096) (hk : 0 ≤ k ∧ k ≤ m) (hr : -2000000 < r.lo ∧ r.lo ≤ r.hi ∧ r.hi < 2000000) (hD : (F_Move r ⟨0, m⟩ false).2 = true) :
    (F_Move r (F_One k) false).2 = true ∧ (F_Move r (F_One k) false).1.lo ≥ (F_Move r ⟨0, m⟩ false).1.lo ∧ (F_Move r (F_One k) false).1.hi ≤ (F_Move r ⟨0, m⟩ false).1.hi ∧
      (F_Move r ⟨0, m⟩ false).1.kind = r.kind ∧ (F_Move r ⟨0, m⟩ false).1.map = r.map := by
  have ek : IntKind.i64.wrap k = k := by rw [wrap_i64]; omega
  have em : IntKind.i64.wrap m = m := by rw [wrap_i64]; omega
  have ez : IntKind.i64.wrap 0 = 0 := by rw [wrap_i64]; omega
  have e1 : IntKind.i64.wrap (r.lo + k) = r.lo + k := by rw [wrap_i64]; omega
  have e2 : IntKind.i64.wrap (r.hi + k) = r.hi + k := by rw [wrap_i64]; omega
  have e3 : IntKind.i64.wrap (r.lo + 0) = r.lo := by rw [wrap_i64]; omega
  have e4 : IntKind.i64.wrap (r.hi + m) = r.hi + m := by rw [wrap_i64]; omega
  rw [move_span r 0 m (by simp; omega) (by omega)] at hD ⊢
  simp only [F_One, move_one, ek, em, ez, e1, e2, e3, e4, cond_false] at hD ⊢
  cases hc : (F_rPointer r.kind && F_near r.lo && F_near (r.hi + m)) <;> rw [hc] at hD
  · cases hD
  simp only [Bool.and_eq_true] at hc
  obtain ⟨⟨c1, c2⟩, c3⟩ := hc
  rw [near_iff] at c2 c3
  have n1 : F_near k = true := (near_iff _).2 (by omega)
  have n2 : F_near (r.lo + k) = true := (near_iff _).2 (by omega)
  have n3 : F_near (r.hi + k) = true := (near_iff _).2 (by omega)
  rw [c1, n1, n2, n3]
  simp only [Bool.and_self, cond_true]
  refine ⟨trivial, ?_, ?_, trivial, trivial⟩ <;> omega

theorem RegBack_true (a0 : SRaw) (a1 a2 a3 : Int) (h3 : 0 ≤ a3) : F_RegBack a0 a1 a2 a3 = true := by
  have hr := made_in a0
  have hn := tmod_in a1 1000 (by decide)
  have hb1 := back1 (F_made a0).1 (Int.tmod a1 1000) hn hr
  have hm : IntKind.u64.wrap (1 + andI .u64 a2 4095) = 1 + a2 % 4096 := by rw [and_u64_4095, wrap_u64]; omega
  have hm1 : IntKind.u64.wrap (1 + a2 % 4096 + 1) = 1 + a2 % 4096 + 1 := by rw [wrap_u64]; omega
  have hk : 0 ≤ Int.tmod a3 (1 + a2 % 4096 + 1) ∧ Int.tmod a3 (1 + a2 % 4096 + 1) ≤ 1 + a2 % 4096 := by
    rw [Int.tmod_eq_emod_of_nonneg h3]
    have := Int.emod_nonneg a3 (by omega : 1 + a2 % 4096 + 1 ≠ 0)
    have := Int.emod_lt_of_pos a3 (by omega : 0 < 1 + a2 % 4096 + 1)
    omega
  have hb2 := back2 (F_made a0).1 (1 + a2 % 4096) (Int.tmod a3 (1 + a2 % 4096 + 1)) (by omega) hk hr
  unfold F_RegBack
  simp only [hm, hm1, shown_true, cond_true]
  generalize F_Move (F_made a0).1 (F_One (IntKind.u64.wrap (Int.tmod a1 1000))) false = A at hb1 ⊢
  generalize F_Move A.1 (F_One (IntKind.u64.wrap (Int.tmod a1 1000))) true = B at hb1 ⊢
  generalize F_Move (F_made a0).1 (F_One (Int.tmod a3 (1 + a2 % 4096 + 1))) false = C at hb2 ⊢
  generalize F_Move (F_made a0).1 ⟨0, 1 + a2 % 4096⟩ false = D at hb2 ⊢
  have last : (bif !D.2 then true else bif C.2 then bif decide (C.1.lo ≥ D.1.lo) then bif decide (C.1.hi ≤ D.1.hi) then bif D.1.kind == (F_made a0).1.kind then D.1.map == (F_made a0).1.map else false else false else false else false) = true := by
    cases hD : D.2
    · rfl
    · obtain ⟨c1, c2, c3, c4, c5⟩ := hb2 hD
      simp [c1, c2, c3, c4, c5]
  rw [last]
  cases hA : A.2
  · rfl
  obtain ⟨p1, p2⟩ := hb1 hA
  cases hB : B.2
  · have p2 := p2 hB
    cases q1 : decide (IntKind.i64.wrap (A.1.lo - Int.tmod a1 1000) ≥ -1048576)
    · rfl
    cases q2 : decide (IntKind.i64.wrap (A.1.hi - Int.tmod a1 1000) ≤ 1048576)
    · rfl
    exact (p2 (of_decide_eq_true q1) (of_decide_eq_true q2)).elim
  · rw [p1 hB, eq29]
    rfl

theorem RegBack_wf (a0 : SRaw) (a1 a2 a3 : Int) (h3 : (Lit.int .u64 a3).wf = true) : F_RegBack a0 a1 a2 a3 = true :=
  RegBack_true a0 a1 a2 a3 (by
    simp only [Lit.wf, Bool.and_eq_true, decide_eq_true_eq] at h3
    exact h3.1)

end Dd
