/- What halves tells. -/
import Derived.Test.YthjljdbelnakfaaH12
namespace Dd
open Go Go.RowKit Go.Proofs
set_option linter.unusedVariables false
set_option linter.unusedSimpArgs false

def halfS (g : Nat → SInsn) : Nat → Bool
  | 0 => false
  | i + 1 => !(halfS g i) && ((g i).op == 24)

theorem F_Wide_eq (i : SInsn) : F_Wide i = (i.op == 24) := rfl

theorem i64_id {k : Int} (h1 : -9223372036854775808 ≤ k) (h2 : k ≤ 9223372036854775807) : IntKind.i64.wrap k = k := by
  rw [wrap_i64]; omega

theorem updF_at {α : Type} (f : Nat → α) (i j : Nat) (v : α) : updF f i v j = if j = i then v else f j := by
  unfold updF
  cases h : Nat.beq j i
  · rw [if_neg (Nat.ne_of_beq_eq_false h)]; rfl
  · rw [if_pos (Nat.eq_of_beq_eq_true h)]; rfl

theorem halves_upd {n0 : Nat} {g : Nat → SInsn} {x : Nat → Bool} {s : Nat} {v : Bool} (hs : s < n0) (hx : ∀ i, i < s → x i = halfS g i) (hv : v = halfS g s) : ∀ i, i < s + 1 → updF x s v (selB n0 i) = halfS g i := by
  intro i hi
  rw [selB_lt (by omega), updF_at]
  split
  · rename_i h; rw [h]; exact hv
  · exact hx i (by omega)

theorem L_halves_spec (n0 : Nat) (g : Nat → SInsn) (hn : n0 ≤ 1000000) : ∀ (n : Nat) (s : Nat) (x : Nat → Bool), s ≤ n0 → n0 < s + n → (∀ i, i < s → x i = halfS g i) →
    (L_halves_0 n n0 g (s : Int) x).1 = n0 ∧ ∀ i, i < n0 → (L_halves_0 n n0 g (s : Int) x).2 i = halfS g i := by
  intro n
  induction n with
  | zero => intro s x h1 h2; omega
  | succ n ih =>
    intro s x h1 h2 hx
    unfold L_halves_0
    have w1 : IntKind.i64.wrap ((s : Int) + 1) = ((s + 1 : Nat) : Int) := by rw [i64_id] <;> omega
    by_cases hs : s < n0
    · have d1 : decide ((s : Int) < (n0 : Int)) = true := decide_eq_true (by omega)
      rw [d1, cond_true, w1]
      have t1 : ((n0 : Nat) : Int).toNat = n0 := rfl
      have t2 : ((s : Nat) : Int).toNat = s := rfl
      rw [t1, t2]
      cases s with
      | zero =>
        have d2 : decide (((0 : Nat) : Int) > 0) = false := rfl
        rw [d2, cond_false]
        exact ih 1 _ (by omega) (by omega) (halves_upd hs hx rfl)
      | succ s =>
        have d2 : decide (((s + 1 : Nat) : Int) > 0) = true := decide_eq_true (by omega)
        have w2 : (IntKind.i64.wrap (((s + 1 : Nat) : Int) - 1)).toNat = s := by rw [i64_id] <;> omega
        rw [d2, cond_true, w2, hx s (by omega)]
        cases hh : halfS g s
        · rw [Bool.not_false, cond_true]
          exact ih (s + 2) _ (by omega) (by omega) (halves_upd hs hx (by rw [halfS, hh, F_Wide_eq]; rfl))
        · rw [Bool.not_true, cond_false]
          exact ih (s + 2) _ (by omega) (by omega) (halves_upd hs hx (by rw [halfS, hh]; rfl))
    · have d1 : decide ((s : Int) < (n0 : Int)) = false := decide_eq_false (by omega)
      rw [d1, cond_false]
      exact ⟨rfl, fun i hi => hx i (by omega)⟩

theorem halves_len {n0 : Nat} {g : Nat → SInsn} (hn : n0 ≤ 1000000) : (F_halves n0 g).1 = n0 :=
  (L_halves_spec n0 g hn (n0 + 1) 0 _ (by omega) (by omega) (by intro i hi; omega)).1
theorem halves_at {n0 : Nat} {g : Nat → SInsn} (hn : n0 ≤ 1000000) {i : Nat} (hi : i < n0) : (F_halves n0 g).2 i = halfS g i :=
  (L_halves_spec n0 g hn (n0 + 1) 0 _ (by omega) (by omega) (by intro i hi; omega)).2 i hi

end Dd
