/- The plain law SpanOnes. -/
import Derived.Test.YtanopmoiegbjdaaSP4
import Derived.Test.YtanopmoiegbjdaaS8
namespace Dd
open Go Go.RowKit
set_option linter.unusedVariables false
set_option linter.unusedSimpArgs false

def cutW (w : Bool) (s : SSpan) : SSpan := bif w then s else F_sLow s
def bitsN (w : Bool) : Int := bif w then 64 else 32
theorem sDo_def (op : Int) (w : Bool) (a b : SSpan) : F_sDo op w a b =
    (bif (F_aDo op w (cutW w a).lo (cutW w b).lo).2 then (bif F_one (cutW w a) && F_one (cutW w b) then F_sOne (F_aDo op w (cutW w a).lo (cutW w b).lo).1
      else bif (F_does op (bitsN w) (cutW w a) (cutW w b)).2 then cutW w (F_does op (bitsN w) (cutW w a) (cutW w b)).1 else cutW w F_sAll) else cutW w F_sAll) := by
  have d : ∀ s, F_Do1 s = s := fun _ => rfl
  unfold F_sDo cutW bitsN
  cases w
  · simp only [Bool.not_false, cond_true, cond_false]
    generalize (F_aDo op false (F_sLow a).lo (F_sLow b).lo).2 = x
    generalize F_one (F_sLow a) = y
    generalize F_one (F_sLow b) = z
    cases x <;> cases y <;> cases z <;> rfl
  · simp only [Bool.not_true, cond_true, cond_false, d]
    generalize (F_aDo op true a.lo b.lo).2 = x
    generalize F_one a = y
    generalize F_one b = z
    cases x <;> cases y <;> cases z <;> rfl

theorem aDo_mod32 (op : Int) (A B : Nat) : F_aDo op false ((A % 4294967296 : Nat) : Int) ((B % 4294967296 : Nat) : Int) = F_aDo op false (A : Int) (B : Int) := by
  unfold F_aDo
  rw [cond_false, cond_false, w32, w32, w32, w32, Nat.mod_mod, Nat.mod_mod]
theorem sLow_small {n : Int} (h : n ≤ 4294967295) : F_sLow (F_sOne n) = F_sOne n := by
  unfold F_sLow
  rw [decide_eq_false (show ¬ ((F_sOne n).hi > 4294967295) by unfold F_sOne; dsimp only; omega)]; rfl
theorem one_one (n : Int) : F_one (F_sOne n) = true := by unfold F_one F_sOne; exact beq_self_eq_true n

theorem where_ones (op : Int) {x y : Int} (hx : 0 ≤ x ∧ x < 18446744073709551616) (hy : 0 ≤ y ∧ y < 18446744073709551616) (h : (F_aTest op true x y).1 = true) :
    (F_sWhere op (F_sOne x) (F_sOne y)).2 = true ∧ ((F_sWhere op (F_sOne x) (F_sOne y)).1.lo == x) = true ∧ ((F_sWhere op (F_sOne x) (F_sOne y)).1.hi == x) = true := by
  obtain ⟨h1, h2, h3⟩ := where_has op (F_sOne x) (F_sOne y) (okO hx) (okO hy) (x := x) (y := y) ⟨Int.le_refl _, Int.le_refl _⟩ ⟨Int.le_refl _, Int.le_refl _⟩ h
  obtain ⟨k1, k2, k3⟩ := where_in op (F_sOne x) (F_sOne y) (okO hx) (okO hy) h1
  have e1 : (F_sOne x).lo = x := rfl
  have e2 : (F_sOne x).hi = x := rfl
  rw [e1] at k2
  rw [e2] at k3
  exact ⟨h1, beq_iff_eq.2 (by omega), beq_iff_eq.2 (by omega)⟩
theorem where_plain (op : Int) {x y : Int} (hx : 0 ≤ x ∧ x < 18446744073709551616) (hy : 0 ≤ y ∧ y < 18446744073709551616) (hop : op = 16 ∨ op = 80 ∨ op = 32 ∨ op = 48 ∨ op = 160 ∨ op = 176) :
    ((F_sWhere op (F_sOne x) (F_sOne y)).2 == (F_aTest op true x y).1) = true := by
  obtain ⟨t1, t2, t3, t4, t5, t6⟩ := test_val hx hy
  have e1 : ∀ z, (F_sOne z).lo = z := fun _ => rfl
  have e2 : ∀ z, (F_sOne z).hi = z := fun _ => rfl
  cases ht : (F_aTest op true x y).1 with
  | true => rw [(where_ones op hx hy ht).1]; rfl
  | false =>
    have : (F_sWhere op (F_sOne x) (F_sOne y)).2 = false := by
      rcases hop with h | h | h | h | h | h <;> subst h
      · rw [t1] at ht; have ht := of_decide_eq_false ht
        rw [wh16, meet_none (by rw [e1, e1, e2, e2]; omega)]
      · rw [t2] at ht; have ht := of_decide_eq_false ht
        rcases wh80 _ _ (okO hx) (okO hy) with ⟨k, e⟩ | ⟨k1, k2, k3, e⟩ | ⟨k1, k2, k3, e⟩ | ⟨k1, k2, k3, e⟩ | ⟨k1, k2, k3, e⟩ <;> rw [e] <;> simp only [e1, e2] at * <;> omega
      · rw [t3] at ht; have ht := of_decide_eq_false ht
        rw [wh32 _ _ (okO hx) (okO hy), meet_none (by dsimp only; rw [e1, e1, e2]; omega)]
      · rw [t4] at ht; have ht := of_decide_eq_false ht
        rw [wh48, meet_none (by dsimp only; rw [e1, e1, e2]; omega)]
      · rw [t5] at ht; have ht := of_decide_eq_false ht
        rw [wh160 _ _ (okO hx) (okO hy), meet_none (by dsimp only; rw [e1, e2, e2]; omega)]
      · rw [t6] at ht; have ht := of_decide_eq_false ht
        rw [wh176, meet_none (by dsimp only; rw [e1, e2, e2]; omega)]
    rw [this]; rfl

theorem do_ones (op : Int) (w : Bool) {A B : Nat} (hA : A < 18446744073709551616) (hB : B < 18446744073709551616) (h : (F_aDo op w (A : Int) (B : Int)).2 = true) :
    F_sDo op w (F_sOne (bif w then (A : Int) else andI .u64 (A : Int) 4294967295)) (F_sOne (bif w then (B : Int) else andI .u64 (B : Int) 4294967295)) = F_sOne (F_aDo op w (A : Int) (B : Int)).1 := by
  have e1 : ∀ z, (F_sOne z).lo = z := fun _ => rfl
  rw [sDo_def]
  cases w
  · rw [cond_false, cond_false, and_m32 A hA, and_m32 B hB]
    have c : ∀ Z : Nat, cutW false (F_sOne ((Z % 4294967296 : Nat) : Int)) = F_sOne ((Z % 4294967296 : Nat) : Int) := fun Z => sLow_small (by omega)
    rw [c, c, e1, e1, aDo_mod32, h, one_one, one_one]; rfl
  · have c : ∀ s, cutW true s = s := fun _ => rfl
    rw [cond_true, cond_true, c, c, e1, e1, h, one_one, one_one]; rfl

set_option maxHeartbeats 1000000 in
theorem SpanOnes_true (op : Int) (w : Bool) (a b : Int) (ha : 0 ≤ a ∧ a < 18446744073709551616) (hb : 0 ≤ b ∧ b < 18446744073709551616) : F_SpanOnes op w a b = true := by
  have p1 := where_plain op ha hb
  have p2 := where_ones op ha hb
  have p3 : (F_aDo op w a b).2 = true → F_sDo op w (F_sOne (bif w then a else andI .u64 a 4294967295)) (F_sOne (bif w then b else andI .u64 b 4294967295)) = F_sOne (F_aDo op w a b).1 := by
    obtain ⟨A, rfl⟩ : ∃ A : Nat, a = (A : Int) := ⟨a.toNat, by omega⟩
    obtain ⟨B, rfl⟩ : ∃ B : Nat, b = (B : Int) := ⟨b.toNat, by omega⟩
    exact do_ones op w (by omega) (by omega)
  unfold F_SpanOnes
  rw [lshown_true]
  generalize ((F_sWhere op (F_sOne a) (F_sOne b)).1.lo == a) = w1 at *
  generalize ((F_sWhere op (F_sOne a) (F_sOne b)).1.hi == a) = w2 at *
  generalize (F_sWhere op (F_sOne a) (F_sOne b)).2 = w3 at *
  generalize (F_aTest op true a b).1 = t1 at *
  generalize (F_aTest op true a b).2 = t2 at *
  have q1 : (bif (!t2) then (w3 == t1) else (bif (!t1) then (w3 == t1) else (bif w3 then (bif w1 then (bif w2 then (w3 == t1) else false) else false) else false))) = (w3 == t1) := by
    revert p2; cases t1 <;> cases t2 <;> simp
    intro h1 h2 h3; simp [h1, h2, h3]
  have q2 : ∀ z : Bool, z = true → (bif (!t2) then z else (bif (!t1) then z else (bif w3 then (bif w1 then (bif w2 then z else false) else false) else false))) = true := by
    intro z hz; subst hz; revert p2; cases t1 <;> cases t2 <;> simp
    try (intro h1 h2 h3; simp [h1, h2, h3])
  have q3 : (bif (!((op : Int) == 176)) then true else (w3 == t1)) = true := by
    by_cases h : op = 176
    · rw [p1 (by simp [h])]; cases (!(op == 176)) <;> rfl
    · rw [beq_eq_false_iff_ne.2 h]; rfl
  have q4 := q2 _ q3
  have last : (bif ((op : Int) == 16) then (w3 == t1) else bif ((op : Int) == 80) then (w3 == t1) else bif ((op : Int) == 32) then (w3 == t1) else bif ((op : Int) == 48) then (w3 == t1) else bif ((op : Int) == 160) then (w3 == t1) else true) = true := by
    by_cases h1 : op = 16
    · rw [p1 (by simp [h1]), h1]; rfl
    by_cases h2 : op = 80
    · rw [p1 (by simp [h2]), h2]; rfl
    by_cases h3 : op = 32
    · rw [p1 (by simp [h3]), h3]; rfl
    by_cases h4 : op = 48
    · rw [p1 (by simp [h4]), h4]; rfl
    by_cases h5 : op = 160
    · rw [p1 (by simp [h5]), h5]; rfl
    have n : ∀ k : Int, op ≠ k → (op == k) = false := fun k hk => beq_eq_false_iff_ne.2 hk
    rw [n 16 h1, n 80 h2, n 32 h3, n 48 h4, n 160 h5]; rfl
  simp only [cond_true, q1, q4]
  rw [last]
  cases w
  · simp only [Bool.not_false, cond_true]
    cases h : (F_aDo op false a b).2
    · rfl
    · have e := p3 h
      simp only [cond_false] at e
      rw [e]; simp [F_sOne]
  · simp only [Bool.not_true, cond_false]
    cases h : (F_aDo op true a b).2
    · rfl
    · have e := p3 h
      simp only [cond_true] at e
      rw [e]; simp [F_sOne]
end Dd
