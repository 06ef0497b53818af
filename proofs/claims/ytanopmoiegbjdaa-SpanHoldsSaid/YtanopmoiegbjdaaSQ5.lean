/- The document's operations are the program's. -/
import Derived.Test.YtanopmoiegbjdaaSQ3
namespace Dd
open Go Go.RowKit
set_option linter.unusedVariables false
set_option linter.unusedSimpArgs false

theorem up_loop : ∀ (m k i N s : Nat), i + k = N → N ≤ 64 → k < m → s < 18446744073709551616 → L_up_0 m (N : Int) (s : Int) (i : Int) = ((s * 2 ^ k % 18446744073709551616 : Nat) : Int)
  | 0, _, _, _, _, _, _, h, _ => by omega
  | m + 1, k, i, N, s, h1, h2, h3, hs => by
    unfold L_up_0
    by_cases hk : k = 0
    · subst hk
      have : decide ((i : Int) < (N : Int)) = false := decide_eq_false (by omega)
      rw [this, cond_false, Nat.pow_zero, Nat.mul_one, Nat.mod_eq_of_lt hs]
    · have : decide ((i : Int) < (N : Int)) = true := decide_eq_true (by omega)
      have e1 : IntKind.u64.wrap ((s : Int) + (s : Int)) = ((2 * s % 18446744073709551616 : Nat) : Int) := by rw [← w64]; congr 1; omega
      have e2 : IntKind.u64.wrap ((i : Int) + 1) = ((i + 1 : Nat) : Int) := by rw [wrap_u64]; omega
      rw [this, cond_true, e1, e2, up_loop m (k - 1) (i + 1) N _ (by omega) h2 (by omega) (Nat.mod_lt _ (by decide))]
      congr 1
      rw [Nat.mod_mul_mod]
      congr 1
      obtain ⟨j, rfl⟩ := Nat.exists_eq_succ_of_ne_zero hk
      rw [Nat.succ_sub_one, Nat.pow_succ, Nat.mul_comm 2 s, Nat.mul_assoc, Nat.mul_comm 2]
  where
  _root_.Nat.mod_mul_mod (a b n : Nat) : a % n * b % n = a * b % n := by rw [Nat.mul_mod, Nat.mod_mod, ← Nat.mul_mod]

theorem down_loop : ∀ (m k i N b s : Nat), i + k = N → N ≤ 64 → k < m → s < 18446744073709551616 → L_down_0 m (N : Int) (b : Int) false (s : Int) (i : Int) = ((s / 2 ^ k : Nat) : Int)
  | 0, _, _, _, _, _, _, _, h, _ => by omega
  | m + 1, k, i, N, b, s, h1, h2, h3, hs => by
    unfold L_down_0
    by_cases hk : k = 0
    · subst hk
      have : decide ((i : Int) < (N : Int)) = false := decide_eq_false (by omega)
      rw [this, cond_false, Nat.pow_zero, Nat.div_one]
    · have : decide ((i : Int) < (N : Int)) = true := decide_eq_true (by omega)
      have e1 : IntKind.u64.wrap (Int.tdiv (s : Int) 2) = ((s / 2 : Nat) : Int) := by rw [show (2 : Int) = ((2 : Nat) : Int) from rfl, tdiv_nat, w64, Nat.mod_eq_of_lt (by omega)]
      have e2 : IntKind.u64.wrap ((i : Int) + 1) = ((i + 1 : Nat) : Int) := by rw [wrap_u64]; omega
      rw [this, cond_true, cond_false, e1, e2, down_loop m (k - 1) (i + 1) N b _ (by omega) h2 (by omega) (by omega)]
      congr 1
      obtain ⟨j, rfl⟩ := Nat.exists_eq_succ_of_ne_zero hk
      rw [Nat.succ_sub_one, Nat.div_div_eq_div_mul, Nat.pow_succ, Nat.mul_comm]

/-- ones come in from above -/
theorem down_ones (c : Nat) (hc : c = 31 ∨ c = 63) : ∀ (m k i N s : Nat), i + k = N → N ≤ 64 → k < m → s < 2 ^ (c + 1) → L_down_0 m (N : Int) ((c + 1 : Nat) : Int) true (s : Int) (i : Int) = 2 ^ (c + 1) + ((s : Int) - 2 ^ (c + 1)) / 2 ^ k
  | 0, _, _, _, _, _, _, h, _ => by omega
  | m + 1, k, i, N, s, h1, h2, h3, hs => by
    unfold L_down_0
    by_cases hk : k = 0
    · subst hk
      have : decide ((i : Int) < (N : Int)) = false := decide_eq_false (by omega)
      rw [this, cond_false, Int.pow_zero, Int.ediv_one]; omega
    · have : decide ((i : Int) < (N : Int)) = true := decide_eq_true (by omega)
      have hb : 2 ^ (c + 1) ≤ 18446744073709551616 := by rcases hc with rfl | rfl <;> decide
      have hp : 2 ^ (c + 1) = 2 * 2 ^ c := by rw [Nat.pow_succ, Nat.mul_comm]
      have hpos : 0 < 2 ^ c := Nat.two_pow_pos c
      have hc2 : (2 : Nat) ^ c < 18446744073709551616 := by omega
      have e1 : IntKind.u64.wrap (Int.tdiv (s : Int) 2) = ((s / 2 : Nat) : Int) := by rw [show (2 : Int) = ((2 : Nat) : Int) from rfl, tdiv_nat, w64, Nat.mod_eq_of_lt (by omega)]
      have e2 : IntKind.u64.wrap ((i : Int) + 1) = ((i + 1 : Nat) : Int) := by rw [wrap_u64]; omega
      have e3 : shlI .u64 1 (IntKind.u64.wrap (((c + 1 : Nat) : Int) - 1)) = ((2 ^ c : Nat) : Int) := by
        have : IntKind.u64.wrap (((c + 1 : Nat) : Int) - 1) = (c : Int) := by rw [wrap_u64]; omega
        have h1 := shl64 (A := 1) (k := c) (by omega)
        rw [Nat.one_mul, Nat.mod_eq_of_lt hc2] at h1
        rw [this]; exact h1
      have e4 : s / 2 ||| 2 ^ c = s / 2 + 2 ^ c := by
        have h := or_eq (s / 2) (2 ^ c)
        have h2 := xor_eq (s / 2) (2 ^ c)
        have h3 := xor_top c (s / 2) (by omega)
        rw [Nat.mod_eq_of_lt (by omega)] at h3
        omega
      rw [this, cond_true, cond_true, e1, e2, e3, or64 (by omega) hc2, e4, down_ones c hc m (k - 1) (i + 1) N _ (by omega) h2 (by omega) (by omega)]
      obtain ⟨j, rfl⟩ := Nat.exists_eq_succ_of_ne_zero hk
      rw [Nat.succ_sub_one]
      congr 1
      have e5 : (((s / 2 + 2 ^ c : Nat) : Int) - 2 ^ (c + 1)) = ((s : Int) - 2 ^ (c + 1)) / 2 := by
        have hpi : (2 : Int) ^ (c + 1) = 2 * 2 ^ c := by rw [Int.pow_succ, Int.mul_comm]
        rw [hpi]
        have : ((s / 2 + 2 ^ c : Nat) : Int) = (s : Int) / 2 + 2 ^ c := by simp
        rw [this]
        generalize (2 : Int) ^ c = z
        omega
      rw [e5, Int.ediv_ediv_of_nonneg (by decide), show (2 : Int) ^ (j.succ) = 2 * 2 ^ j from by rw [Int.pow_succ, Int.mul_comm]]

theorem mul_loop (w : Bool) (a b : Nat) (ha : a < 18446744073709551616) (hb : b < 18446744073709551616) : ∀ (m i x : Nat), i ≤ 64 → 64 < i + m → x < 18446744073709551616 →
    L_rDo_0 m w (a : Int) (b : Int) (x : Int) (i : Int) = (bif !w then (F_rLow (((x + a * (b / 2 ^ i) * 2 ^ i) % 18446744073709551616 : Nat) : Int), true) else ((((x + a * (b / 2 ^ i) * 2 ^ i) % 18446744073709551616 : Nat) : Int), true))
  | 0, i, _, h1, h2, _ => by omega
  | m + 1, i, x, h1, h2, hx => by
    unfold L_rDo_0
    by_cases hi : i = 64
    · subst hi
      have : decide (((64 : Nat) : Int) < 64) = false := rfl
      rw [this, cond_false, Nat.div_eq_of_lt (show b < 2 ^ 64 from hb), Nat.mul_zero, Nat.zero_mul, Nat.add_zero, Nat.mod_eq_of_lt hx]
    · have : decide ((i : Int) < 64) = true := decide_eq_true (by omega)
      have e2 : IntKind.i64.wrap ((i : Int) + 1) = ((i + 1 : Nat) : Int) := by rw [wrap_i64]; omega
      have e3 : IntKind.u64.wrap (i : Int) = (i : Int) := by rw [wrap_u64]; omega
      have hd : b / 2 ^ i = 2 * (b / 2 ^ (i + 1)) + b / 2 ^ i % 2 := by
        rw [Nat.pow_succ, ← Nat.div_div_eq_div_mul]; omega
      have hbit : andI .u64 (shrI .u64 (b : Int) (IntKind.u64.wrap (i : Int))) 1 = ((b / 2 ^ i % 2 : Nat) : Int) := by
        have hl : b / 2 ^ i < 18446744073709551616 := Nat.lt_of_le_of_lt (Nat.div_le_self _ _) hb
        have := and64 (A := b / 2 ^ i) (B := 1) hl (by decide)
        rw [e3, shr64 (by omega)]
        rw [show ((1 : Nat) : Int) = 1 from rfl] at this
        rw [this, show (1 : Nat) = 2 ^ 1 - 1 from rfl, Nat.and_two_pow_sub_one_eq_mod]
      rw [this, cond_true, hbit, e3, e2]
      have hpow : 2 ^ (i + 1) = 2 * 2 ^ i := by rw [Nat.pow_succ, Nat.mul_comm]
      by_cases h0 : b / 2 ^ i % 2 = 0
      · have : (((b / 2 ^ i % 2 : Nat) : Int) == 1) = false := by rw [h0]; rfl
        rw [this, cond_false, mul_loop w a b ha hb m (i + 1) x (by omega) (by omega) hx]
        have : a * (b / 2 ^ (i + 1)) * 2 ^ (i + 1) = a * (b / 2 ^ i) * 2 ^ i := by
          rw [hd, h0, Nat.add_zero, hpow]
          generalize b / (2 * 2 ^ i) = q
          rw [Nat.add_zero, Nat.mul_comm 2 q]
          simp only [Nat.mul_assoc]
        rw [this]
      · have h1' : b / 2 ^ i % 2 = 1 := by omega
        have : (((b / 2 ^ i % 2 : Nat) : Int) == 1) = true := by rw [h1']; rfl
        have ex : IntKind.u64.wrap ((x : Int) + shlI .u64 (a : Int) (i : Int)) = (((x + a * 2 ^ i % 18446744073709551616) % 18446744073709551616 : Nat) : Int) := by
          rw [shl64 (by omega), ← w64]; congr 1
        rw [this, cond_true, ex, mul_loop w a b ha hb m (i + 1) _ (by omega) (by omega) (Nat.mod_lt _ (by decide))]
        have : ((x + a * 2 ^ i % 18446744073709551616) % 18446744073709551616 + a * (b / 2 ^ (i + 1)) * 2 ^ (i + 1)) % 18446744073709551616 = (x + a * (b / 2 ^ i) * 2 ^ i) % 18446744073709551616 := by
          have hh : a * (b / 2 ^ i) * 2 ^ i = a * (b / 2 ^ (i + 1)) * 2 ^ (i + 1) + a * 2 ^ i := by
            rw [hd, h1', hpow]
            generalize b / (2 * 2 ^ i) = q
            rw [Nat.mul_add, Nat.add_mul, Nat.mul_one]
            congr 1
            rw [Nat.mul_comm 2 q]
            simp only [Nat.mul_assoc]
          rw [hh]
          generalize a * (b / 2 ^ (i + 1)) * 2 ^ (i + 1) = p
          generalize a * 2 ^ i = q
          omega
        rw [this]

theorem rDo_add (w : Bool) {A B : Nat} (hA : A < 18446744073709551616) (hB : B < 18446744073709551616) : F_rDo 0 w (A : Int) (B : Int) = F_aDo 0 w (A : Int) (B : Int) := by
  have hA2 : A % 4294967296 < 4294967296 := Nat.mod_lt _ (by decide)
  have hB2 : B % 4294967296 < 4294967296 := Nat.mod_lt _ (by decide)
  have hA3 : A % 4294967296 < 18446744073709551616 := by omega
  have hB3 : B % 4294967296 < 18446744073709551616 := by omega
  have pr : ∀ {x y : Int}, x = y → (x, true) = (y, true) := fun h => by rw [h]
  have lA : lw false A = A % 4294967296 := rfl
  have lB : lw false B = B % 4294967296 := rfl
  have mF : Mw false = 4294967296 := rfl
  have mT : Mw true = 18446744073709551616 := rfl
  have nF : Nw false = 32 := rfl
  have nT : Nw true = 64 := rfl
  have lA' : lw true A = A := rfl
  have lB' : lw true B = B := rfl
  have ones64 : ∀ {X : Nat}, X < 18446744073709551616 → xorI .u64 18446744073709551615 (X : Int) = ((18446744073709551615 - X : Nat) : Int) := fun {X} hX => by
    have h1 := xor64 (A := 18446744073709551615) (B := X) (by decide) hX
    have h2 := ones_xor 64 X hX
    rw [show (2 : Nat) ^ 64 - 1 = 18446744073709551615 from rfl] at h2
    rw [show ((18446744073709551615 : Nat) : Int) = 18446744073709551615 from rfl] at h1
    rw [h1, h2]
  rw [aDo_add w hA hB]
  cases w
  · show (F_rLow (IntKind.u64.wrap (F_rLow A + F_rLow B)), true) = _
    rw [rLow_nat, rLow_nat, wrap_u64, lA, lB, mF]
    refine pr ?_
    rw [show (((A % 4294967296 : Nat) : Int) + ((B % 4294967296 : Nat) : Int)) % 18446744073709551616 = ((A % 4294967296 + B % 4294967296 : Nat) : Int) from by omega, rLow_nat]
  · show (IntKind.u64.wrap ((A : Int) + B), true) = _
    rw [lA', lB', mT, ← w64]; rfl

theorem rDo_sub (w : Bool) {A B : Nat} (hA : A < 18446744073709551616) (hB : B < 18446744073709551616) : F_rDo 16 w (A : Int) (B : Int) = F_aDo 16 w (A : Int) (B : Int) := by
  have hA2 : A % 4294967296 < 4294967296 := Nat.mod_lt _ (by decide)
  have hB2 : B % 4294967296 < 4294967296 := Nat.mod_lt _ (by decide)
  have hA3 : A % 4294967296 < 18446744073709551616 := by omega
  have hB3 : B % 4294967296 < 18446744073709551616 := by omega
  have pr : ∀ {x y : Int}, x = y → (x, true) = (y, true) := fun h => by rw [h]
  have lA : lw false A = A % 4294967296 := rfl
  have lB : lw false B = B % 4294967296 := rfl
  have mF : Mw false = 4294967296 := rfl
  have mT : Mw true = 18446744073709551616 := rfl
  have nF : Nw false = 32 := rfl
  have nT : Nw true = 64 := rfl
  have lA' : lw true A = A := rfl
  have lB' : lw true B = B := rfl
  have ones64 : ∀ {X : Nat}, X < 18446744073709551616 → xorI .u64 18446744073709551615 (X : Int) = ((18446744073709551615 - X : Nat) : Int) := fun {X} hX => by
    have h1 := xor64 (A := 18446744073709551615) (B := X) (by decide) hX
    have h2 := ones_xor 64 X hX
    rw [show (2 : Nat) ^ 64 - 1 = 18446744073709551615 from rfl] at h2
    rw [show ((18446744073709551615 : Nat) : Int) = 18446744073709551615 from rfl] at h1
    rw [h1, h2]
  rw [aDo_sub w hA hB]
  cases w
  · show (F_rLow (IntKind.u64.wrap (F_rLow A + IntKind.u64.wrap (xorI .u64 18446744073709551615 (F_rLow B) + 1))), true) = _
    rw [rLow_nat, rLow_nat, ones64 hB3, wrap_u64, wrap_u64, lA, lB, mF]
    refine pr ?_
    rw [show (((A % 4294967296 : Nat) : Int) + (((18446744073709551615 - B % 4294967296 : Nat) : Int) + 1) % 18446744073709551616) % 18446744073709551616 = (((A % 4294967296 + (18446744073709551616 - B % 4294967296)) % 18446744073709551616 : Nat) : Int) from by omega, rLow_nat]
    congr 1; omega
  · show (IntKind.u64.wrap ((A : Int) + IntKind.u64.wrap (xorI .u64 18446744073709551615 (B : Int) + 1)), true) = _
    rw [ones64 hB, wrap_u64, wrap_u64, lA', lB', mT]
    refine pr ?_
    omega

theorem F_rDo_32 (w : Bool) (a b : Int) : F_rDo 32 w a b = bif !w then L_rDo_0 65 w (F_rLow a) (F_rLow b) 0 0 else L_rDo_0 65 w a b 0 0 := by
  unfold F_rDo
  rw [show ((32 : Int) == 0) = false from rfl, show ((32 : Int) == 16) = false from rfl, show ((32 : Int) == 32) = true from rfl]
  simp only [cond_false, cond_true]

theorem rDo_mul (w : Bool) {A B : Nat} (hA : A < 18446744073709551616) (hB : B < 18446744073709551616) : F_rDo 32 w (A : Int) (B : Int) = F_aDo 32 w (A : Int) (B : Int) := by
  have hA2 : A % 4294967296 < 4294967296 := Nat.mod_lt _ (by decide)
  have hB2 : B % 4294967296 < 4294967296 := Nat.mod_lt _ (by decide)
  have hA3 : A % 4294967296 < 18446744073709551616 := by omega
  have hB3 : B % 4294967296 < 18446744073709551616 := by omega
  have pr : ∀ {x y : Int}, x = y → (x, true) = (y, true) := fun h => by rw [h]
  have lA : lw false A = A % 4294967296 := rfl
  have lB : lw false B = B % 4294967296 := rfl
  have mF : Mw false = 4294967296 := rfl
  have mT : Mw true = 18446744073709551616 := rfl
  have nF : Nw false = 32 := rfl
  have nT : Nw true = 64 := rfl
  have lA' : lw true A = A := rfl
  have lB' : lw true B = B := rfl
  have ones64 : ∀ {X : Nat}, X < 18446744073709551616 → xorI .u64 18446744073709551615 (X : Int) = ((18446744073709551615 - X : Nat) : Int) := fun {X} hX => by
    have h1 := xor64 (A := 18446744073709551615) (B := X) (by decide) hX
    have h2 := ones_xor 64 X hX
    rw [show (2 : Nat) ^ 64 - 1 = 18446744073709551615 from rfl] at h2
    rw [show ((18446744073709551615 : Nat) : Int) = 18446744073709551615 from rfl] at h1
    rw [h1, h2]
  rw [aDo_mul w hA hB]
  cases w
  · rw [F_rDo_32, Bool.not_false, cond_true, show (0 : Int) = ((0 : Nat) : Int) from rfl, rLow_nat, rLow_nat, mul_loop false _ _ hA3 hB3 65 0 0 (by decide) (by decide) (by decide), Bool.not_false, cond_true, rLow_nat, lA, lB, mF]
    refine pr ?_
    congr 1
    rw [Nat.pow_zero, Nat.div_one, Nat.mul_one, Nat.zero_add]
    omega
  · rw [F_rDo_32, Bool.not_true, cond_false, show (0 : Int) = ((0 : Nat) : Int) from rfl, mul_loop true _ _ hA hB 65 0 0 (by decide) (by decide) (by decide), Bool.not_true, cond_false, lA', lB', mT, Nat.pow_zero, Nat.div_one, Nat.mul_one, Nat.zero_add]

theorem rDo_div (w : Bool) {A B : Nat} (hA : A < 18446744073709551616) (hB : B < 18446744073709551616) : F_rDo 48 w (A : Int) (B : Int) = F_aDo 48 w (A : Int) (B : Int) := by
  have hA2 : A % 4294967296 < 4294967296 := Nat.mod_lt _ (by decide)
  have hB2 : B % 4294967296 < 4294967296 := Nat.mod_lt _ (by decide)
  have hA3 : A % 4294967296 < 18446744073709551616 := by omega
  have hB3 : B % 4294967296 < 18446744073709551616 := by omega
  have pr : ∀ {x y : Int}, x = y → (x, true) = (y, true) := fun h => by rw [h]
  have lA : lw false A = A % 4294967296 := rfl
  have lB : lw false B = B % 4294967296 := rfl
  have mF : Mw false = 4294967296 := rfl
  have mT : Mw true = 18446744073709551616 := rfl
  have nF : Nw false = 32 := rfl
  have nT : Nw true = 64 := rfl
  have lA' : lw true A = A := rfl
  have lB' : lw true B = B := rfl
  have ones64 : ∀ {X : Nat}, X < 18446744073709551616 → xorI .u64 18446744073709551615 (X : Int) = ((18446744073709551615 - X : Nat) : Int) := fun {X} hX => by
    have h1 := xor64 (A := 18446744073709551615) (B := X) (by decide) hX
    have h2 := ones_xor 64 X hX
    rw [show (2 : Nat) ^ 64 - 1 = 18446744073709551615 from rfl] at h2
    rw [show ((18446744073709551615 : Nat) : Int) = 18446744073709551615 from rfl] at h1
    rw [h1, h2]
  rw [aDo_div w hA hB]
  cases w
  · show (bif (decide ((F_rLow B : Int) > 0)) then (F_rLow (IntKind.u64.wrap (Int.tdiv (F_rLow A) (F_rLow B))), true) else (F_rLow 0, true)) = _
    rw [rLow_nat, rLow_nat, tdiv_nat, w64, rLow_nat, lA, lB]
    by_cases h0 : B % 4294967296 = 0
    · rw [h0, if_pos rfl]; rfl
    · rw [show decide (((B % 4294967296 : Nat) : Int) > 0) = true from decide_eq_true (by omega), cond_true, if_neg h0]
      have := Nat.lt_of_le_of_lt (Nat.div_le_self (A % 4294967296) (B % 4294967296)) hA2
      rw [Nat.mod_eq_of_lt (show A % 4294967296 / (B % 4294967296) < 18446744073709551616 by omega), Nat.mod_eq_of_lt this]
  · show (bif (decide ((B : Int) > 0)) then (IntKind.u64.wrap (Int.tdiv (A : Int) (B : Int)), true) else ((0 : Int), true)) = _
    rw [tdiv_nat, w64, lA', lB']
    by_cases h0 : B = 0
    · subst h0; rfl
    · rw [show decide ((B : Int) > 0) = true from decide_eq_true (by omega), cond_true, if_neg h0, Nat.mod_eq_of_lt (Nat.lt_of_le_of_lt (Nat.div_le_self _ _) hA)]

theorem rDo_mod (w : Bool) {A B : Nat} (hA : A < 18446744073709551616) (hB : B < 18446744073709551616) : F_rDo 144 w (A : Int) (B : Int) = F_aDo 144 w (A : Int) (B : Int) := by
  have hA2 : A % 4294967296 < 4294967296 := Nat.mod_lt _ (by decide)
  have hB2 : B % 4294967296 < 4294967296 := Nat.mod_lt _ (by decide)
  have hA3 : A % 4294967296 < 18446744073709551616 := by omega
  have hB3 : B % 4294967296 < 18446744073709551616 := by omega
  have pr : ∀ {x y : Int}, x = y → (x, true) = (y, true) := fun h => by rw [h]
  have lA : lw false A = A % 4294967296 := rfl
  have lB : lw false B = B % 4294967296 := rfl
  have mF : Mw false = 4294967296 := rfl
  have mT : Mw true = 18446744073709551616 := rfl
  have nF : Nw false = 32 := rfl
  have nT : Nw true = 64 := rfl
  have lA' : lw true A = A := rfl
  have lB' : lw true B = B := rfl
  have ones64 : ∀ {X : Nat}, X < 18446744073709551616 → xorI .u64 18446744073709551615 (X : Int) = ((18446744073709551615 - X : Nat) : Int) := fun {X} hX => by
    have h1 := xor64 (A := 18446744073709551615) (B := X) (by decide) hX
    have h2 := ones_xor 64 X hX
    rw [show (2 : Nat) ^ 64 - 1 = 18446744073709551615 from rfl] at h2
    rw [show ((18446744073709551615 : Nat) : Int) = 18446744073709551615 from rfl] at h1
    rw [h1, h2]
  rw [aDo_mod w hA hB]
  have key : ∀ (X Y : Nat), X < 18446744073709551616 → Y ≠ 0 → IntKind.u64.wrap ((X : Int) - IntKind.u64.wrap (IntKind.u64.wrap (Int.tdiv (X : Int) (Y : Int)) * (Y : Int))) = ((X % Y : Nat) : Int) := fun X Y hX h0 => by
    have h1 : X / Y < 18446744073709551616 := Nat.lt_of_le_of_lt (Nat.div_le_self _ _) hX
    have h2 : X / Y * Y ≤ X := Nat.div_mul_le_self _ _
    have h3 := Nat.div_add_mod X Y
    rw [Nat.mul_comm] at h3
    rw [tdiv_nat, w64, Nat.mod_eq_of_lt h1, show ((X / Y : Nat) : Int) * (Y : Int) = ((X / Y * Y : Nat) : Int) from by simp, w64, Nat.mod_eq_of_lt (by omega), wrap_u64]
    omega
  cases w
  · show (bif (decide ((F_rLow B : Int) > 0)) then (F_rLow (IntKind.u64.wrap (F_rLow A - IntKind.u64.wrap (IntKind.u64.wrap (Int.tdiv (F_rLow A) (F_rLow B)) * F_rLow B))), true) else (F_rLow (F_rLow A), true)) = _
    rw [rLow_nat, rLow_nat, rLow_nat, lA, lB]
    by_cases h0 : B % 4294967296 = 0
    · rw [h0, if_pos rfl]
      show (((A % 4294967296 % 4294967296 : Nat) : Int), true) = _
      rw [Nat.mod_mod]
    · rw [show decide (((B % 4294967296 : Nat) : Int) > 0) = true from decide_eq_true (by omega), cond_true, if_neg h0, key _ _ hA3 h0, rLow_nat]
      rw [Nat.mod_eq_of_lt (show A % 4294967296 % (B % 4294967296) < 4294967296 from Nat.lt_of_le_of_lt (Nat.mod_le _ _) hA2)]
  · show (bif (decide ((B : Int) > 0)) then (IntKind.u64.wrap ((A : Int) - IntKind.u64.wrap (IntKind.u64.wrap (Int.tdiv (A : Int) (B : Int)) * (B : Int))), true) else ((A : Int), true)) = _
    rw [lA', lB']
    by_cases h0 : B = 0
    · subst h0; rfl
    · rw [show decide ((B : Int) > 0) = true from decide_eq_true (by omega), cond_true, if_neg h0, key _ _ hA h0]

theorem rDo_or (w : Bool) {A B : Nat} (hA : A < 18446744073709551616) (hB : B < 18446744073709551616) : F_rDo 64 w (A : Int) (B : Int) = F_aDo 64 w (A : Int) (B : Int) := by
  have hA2 : A % 4294967296 < 4294967296 := Nat.mod_lt _ (by decide)
  have hB2 : B % 4294967296 < 4294967296 := Nat.mod_lt _ (by decide)
  have hA3 : A % 4294967296 < 18446744073709551616 := by omega
  have hB3 : B % 4294967296 < 18446744073709551616 := by omega
  have pr : ∀ {x y : Int}, x = y → (x, true) = (y, true) := fun h => by rw [h]
  have lA : lw false A = A % 4294967296 := rfl
  have lB : lw false B = B % 4294967296 := rfl
  have mF : Mw false = 4294967296 := rfl
  have mT : Mw true = 18446744073709551616 := rfl
  have nF : Nw false = 32 := rfl
  have nT : Nw true = 64 := rfl
  have lA' : lw true A = A := rfl
  have lB' : lw true B = B := rfl
  have ones64 : ∀ {X : Nat}, X < 18446744073709551616 → xorI .u64 18446744073709551615 (X : Int) = ((18446744073709551615 - X : Nat) : Int) := fun {X} hX => by
    have h1 := xor64 (A := 18446744073709551615) (B := X) (by decide) hX
    have h2 := ones_xor 64 X hX
    rw [show (2 : Nat) ^ 64 - 1 = 18446744073709551615 from rfl] at h2
    rw [show ((18446744073709551615 : Nat) : Int) = 18446744073709551615 from rfl] at h1
    rw [h1, h2]
  have orx : ∀ (X Y : Nat), X < 18446744073709551616 → Y < 18446744073709551616 → IntKind.u64.wrap (IntKind.u64.wrap ((X : Int) + Y) - andI .u64 (X : Int) (Y : Int)) = ((X ||| Y : Nat) : Int) := fun X Y hX hY => by
    have h1 := xor_eq X Y
    have h2 := or_eq X Y
    have h3 := or_lt64 hX hY
    rw [and64 hX hY, wrap_u64, wrap_u64]
    omega
  have xorx : ∀ (X Y : Nat), X < 18446744073709551616 → Y < 18446744073709551616 → IntKind.u64.wrap (IntKind.u64.wrap ((X : Int) + Y) - IntKind.u64.wrap (2 * andI .u64 (X : Int) (Y : Int))) = ((X ^^^ Y : Nat) : Int) := fun X Y hX hY => by
    have h1 := xor_eq X Y
    have h3 := xor_lt64 hX hY
    rw [and64 hX hY, wrap_u64, wrap_u64, wrap_u64]
    omega
  rw [aDo_or w hA hB]
  cases w
  · show (F_rLow (IntKind.u64.wrap (IntKind.u64.wrap (F_rLow A + F_rLow B) - andI .u64 (F_rLow A) (F_rLow B))), true) = _
    rw [rLow_nat, rLow_nat, orx _ _ hA3 hB3, rLow_nat, Nat.mod_eq_of_lt (or_lt32 hA2 hB2), lA, lB]
  · show (IntKind.u64.wrap (IntKind.u64.wrap ((A : Int) + B) - andI .u64 (A : Int) (B : Int)), true) = _
    rw [orx _ _ hA hB, lA', lB']

theorem rDo_and (w : Bool) {A B : Nat} (hA : A < 18446744073709551616) (hB : B < 18446744073709551616) : F_rDo 80 w (A : Int) (B : Int) = F_aDo 80 w (A : Int) (B : Int) := by
  have hA2 : A % 4294967296 < 4294967296 := Nat.mod_lt _ (by decide)
  have hB2 : B % 4294967296 < 4294967296 := Nat.mod_lt _ (by decide)
  have hA3 : A % 4294967296 < 18446744073709551616 := by omega
  have hB3 : B % 4294967296 < 18446744073709551616 := by omega
  have pr : ∀ {x y : Int}, x = y → (x, true) = (y, true) := fun h => by rw [h]
  have lA : lw false A = A % 4294967296 := rfl
  have lB : lw false B = B % 4294967296 := rfl
  have mF : Mw false = 4294967296 := rfl
  have mT : Mw true = 18446744073709551616 := rfl
  have nF : Nw false = 32 := rfl
  have nT : Nw true = 64 := rfl
  have lA' : lw true A = A := rfl
  have lB' : lw true B = B := rfl
  have ones64 : ∀ {X : Nat}, X < 18446744073709551616 → xorI .u64 18446744073709551615 (X : Int) = ((18446744073709551615 - X : Nat) : Int) := fun {X} hX => by
    have h1 := xor64 (A := 18446744073709551615) (B := X) (by decide) hX
    have h2 := ones_xor 64 X hX
    rw [show (2 : Nat) ^ 64 - 1 = 18446744073709551615 from rfl] at h2
    rw [show ((18446744073709551615 : Nat) : Int) = 18446744073709551615 from rfl] at h1
    rw [h1, h2]
  rw [aDo_and w hA hB]
  cases w
  · show (F_rLow (andI .u64 (F_rLow A) (F_rLow B)), true) = _
    rw [rLow_nat, rLow_nat, and64 hA3 hB3, rLow_nat, Nat.mod_eq_of_lt (and_lt _ _ _ hA2), lA, lB]
  · show (andI .u64 (A : Int) (B : Int), true) = _
    rw [and64 hA hB, lA', lB']

theorem rDo_xor (w : Bool) {A B : Nat} (hA : A < 18446744073709551616) (hB : B < 18446744073709551616) : F_rDo 160 w (A : Int) (B : Int) = F_aDo 160 w (A : Int) (B : Int) := by
  have hA2 : A % 4294967296 < 4294967296 := Nat.mod_lt _ (by decide)
  have hB2 : B % 4294967296 < 4294967296 := Nat.mod_lt _ (by decide)
  have hA3 : A % 4294967296 < 18446744073709551616 := by omega
  have hB3 : B % 4294967296 < 18446744073709551616 := by omega
  have pr : ∀ {x y : Int}, x = y → (x, true) = (y, true) := fun h => by rw [h]
  have lA : lw false A = A % 4294967296 := rfl
  have lB : lw false B = B % 4294967296 := rfl
  have mF : Mw false = 4294967296 := rfl
  have mT : Mw true = 18446744073709551616 := rfl
  have nF : Nw false = 32 := rfl
  have nT : Nw true = 64 := rfl
  have lA' : lw true A = A := rfl
  have lB' : lw true B = B := rfl
  have ones64 : ∀ {X : Nat}, X < 18446744073709551616 → xorI .u64 18446744073709551615 (X : Int) = ((18446744073709551615 - X : Nat) : Int) := fun {X} hX => by
    have h1 := xor64 (A := 18446744073709551615) (B := X) (by decide) hX
    have h2 := ones_xor 64 X hX
    rw [show (2 : Nat) ^ 64 - 1 = 18446744073709551615 from rfl] at h2
    rw [show ((18446744073709551615 : Nat) : Int) = 18446744073709551615 from rfl] at h1
    rw [h1, h2]
  have orx : ∀ (X Y : Nat), X < 18446744073709551616 → Y < 18446744073709551616 → IntKind.u64.wrap (IntKind.u64.wrap ((X : Int) + Y) - andI .u64 (X : Int) (Y : Int)) = ((X ||| Y : Nat) : Int) := fun X Y hX hY => by
    have h1 := xor_eq X Y
    have h2 := or_eq X Y
    have h3 := or_lt64 hX hY
    rw [and64 hX hY, wrap_u64, wrap_u64]
    omega
  have xorx : ∀ (X Y : Nat), X < 18446744073709551616 → Y < 18446744073709551616 → IntKind.u64.wrap (IntKind.u64.wrap ((X : Int) + Y) - IntKind.u64.wrap (2 * andI .u64 (X : Int) (Y : Int))) = ((X ^^^ Y : Nat) : Int) := fun X Y hX hY => by
    have h1 := xor_eq X Y
    have h3 := xor_lt64 hX hY
    rw [and64 hX hY, wrap_u64, wrap_u64, wrap_u64]
    omega
  rw [aDo_xor w hA hB]
  cases w
  · show (F_rLow (IntKind.u64.wrap (IntKind.u64.wrap (F_rLow A + F_rLow B) - IntKind.u64.wrap (2 * andI .u64 (F_rLow A) (F_rLow B)))), true) = _
    rw [rLow_nat, rLow_nat, xorx _ _ hA3 hB3, rLow_nat, Nat.mod_eq_of_lt (xor_lt32 hA2 hB2), lA, lB]
  · show (IntKind.u64.wrap (IntKind.u64.wrap ((A : Int) + B) - IntKind.u64.wrap (2 * andI .u64 (A : Int) (B : Int))), true) = _
    rw [xorx _ _ hA hB, lA', lB']

theorem rDo_lsh (w : Bool) {A B : Nat} (hA : A < 18446744073709551616) (hB : B < 18446744073709551616) : F_rDo 96 w (A : Int) (B : Int) = F_aDo 96 w (A : Int) (B : Int) := by
  have hA2 : A % 4294967296 < 4294967296 := Nat.mod_lt _ (by decide)
  have hB2 : B % 4294967296 < 4294967296 := Nat.mod_lt _ (by decide)
  have hA3 : A % 4294967296 < 18446744073709551616 := by omega
  have hB3 : B % 4294967296 < 18446744073709551616 := by omega
  have pr : ∀ {x y : Int}, x = y → (x, true) = (y, true) := fun h => by rw [h]
  have lA : lw false A = A % 4294967296 := rfl
  have lB : lw false B = B % 4294967296 := rfl
  have mF : Mw false = 4294967296 := rfl
  have mT : Mw true = 18446744073709551616 := rfl
  have nF : Nw false = 32 := rfl
  have nT : Nw true = 64 := rfl
  have lA' : lw true A = A := rfl
  have lB' : lw true B = B := rfl
  have ones64 : ∀ {X : Nat}, X < 18446744073709551616 → xorI .u64 18446744073709551615 (X : Int) = ((18446744073709551615 - X : Nat) : Int) := fun {X} hX => by
    have h1 := xor64 (A := 18446744073709551615) (B := X) (by decide) hX
    have h2 := ones_xor 64 X hX
    rw [show (2 : Nat) ^ 64 - 1 = 18446744073709551615 from rfl] at h2
    rw [show ((18446744073709551615 : Nat) : Int) = 18446744073709551615 from rfl] at h1
    rw [h1, h2]
  rw [aDo_lsh w hA hB]
  cases w
  · show (F_rLow (F_up (F_rLow A) (Int.tmod (F_rLow B) 32)), true) = _
    have hk : B % 4294967296 % 32 < 32 := Nat.mod_lt _ (by decide)
    rw [rLow_nat, rLow_nat, show (32 : Int) = ((32 : Nat) : Int) from rfl, tmod_nat, F_up, show (0 : Int) = ((0 : Nat) : Int) from rfl, up_loop 66 _ 0 _ _ (Nat.zero_add _) (by omega) (by omega) hA3, rLow_nat, lA, lB, mF, nF]
    refine pr ?_
    congr 1
    generalize A % 4294967296 * 2 ^ (B % 4294967296 % 32) = z
    omega
  · show (F_up (A : Int) (Int.tmod (B : Int) 64), true) = _
    have hk : B % 64 < 64 := Nat.mod_lt _ (by decide)
    rw [show (64 : Int) = ((64 : Nat) : Int) from rfl, tmod_nat, F_up, show (0 : Int) = ((0 : Nat) : Int) from rfl, up_loop 66 _ 0 _ _ (Nat.zero_add _) (by omega) (by omega) hA, lA', lB', mT, nT]

theorem rDo_rsh (w : Bool) {A B : Nat} (hA : A < 18446744073709551616) (hB : B < 18446744073709551616) : F_rDo 112 w (A : Int) (B : Int) = F_aDo 112 w (A : Int) (B : Int) := by
  have hA2 : A % 4294967296 < 4294967296 := Nat.mod_lt _ (by decide)
  have hB2 : B % 4294967296 < 4294967296 := Nat.mod_lt _ (by decide)
  have hA3 : A % 4294967296 < 18446744073709551616 := by omega
  have hB3 : B % 4294967296 < 18446744073709551616 := by omega
  have pr : ∀ {x y : Int}, x = y → (x, true) = (y, true) := fun h => by rw [h]
  have lA : lw false A = A % 4294967296 := rfl
  have lB : lw false B = B % 4294967296 := rfl
  have mF : Mw false = 4294967296 := rfl
  have mT : Mw true = 18446744073709551616 := rfl
  have nF : Nw false = 32 := rfl
  have nT : Nw true = 64 := rfl
  have lA' : lw true A = A := rfl
  have lB' : lw true B = B := rfl
  have ones64 : ∀ {X : Nat}, X < 18446744073709551616 → xorI .u64 18446744073709551615 (X : Int) = ((18446744073709551615 - X : Nat) : Int) := fun {X} hX => by
    have h1 := xor64 (A := 18446744073709551615) (B := X) (by decide) hX
    have h2 := ones_xor 64 X hX
    rw [show (2 : Nat) ^ 64 - 1 = 18446744073709551615 from rfl] at h2
    rw [show ((18446744073709551615 : Nat) : Int) = 18446744073709551615 from rfl] at h1
    rw [h1, h2]
  rw [aDo_rsh w hA hB]
  cases w
  · show (F_rLow (F_down (F_rLow A) (Int.tmod (F_rLow B) 32) 32 false), true) = _
    have hk : B % 4294967296 % 32 < 32 := Nat.mod_lt _ (by decide)
    rw [rLow_nat, rLow_nat, show (32 : Int) = ((32 : Nat) : Int) from rfl, tmod_nat, F_down, show (0 : Int) = ((0 : Nat) : Int) from rfl, down_loop 66 _ 0 _ _ _ (Nat.zero_add _) (by omega) (by omega) hA3, rLow_nat, lA, lB, nF]
    rw [Nat.mod_eq_of_lt (Nat.lt_of_le_of_lt (Nat.div_le_self _ _) hA2)]
  · show (F_down (A : Int) (Int.tmod (B : Int) 64) 64 false, true) = _
    have hk : B % 64 < 64 := Nat.mod_lt _ (by decide)
    rw [show (64 : Int) = ((64 : Nat) : Int) from rfl, tmod_nat, F_down, show (0 : Int) = ((0 : Nat) : Int) from rfl, down_loop 66 _ 0 _ _ _ (Nat.zero_add _) (by omega) (by omega) hA, lA', lB', nT]

theorem rDo_arsh (w : Bool) {A B : Nat} (hA : A < 18446744073709551616) (hB : B < 18446744073709551616) : F_rDo 192 w (A : Int) (B : Int) = F_aDo 192 w (A : Int) (B : Int) := by
  have hA2 : A % 4294967296 < 4294967296 := Nat.mod_lt _ (by decide)
  have hB2 : B % 4294967296 < 4294967296 := Nat.mod_lt _ (by decide)
  have hA3 : A % 4294967296 < 18446744073709551616 := by omega
  have hB3 : B % 4294967296 < 18446744073709551616 := by omega
  have pr : ∀ {x y : Int}, x = y → (x, true) = (y, true) := fun h => by rw [h]
  have lA : lw false A = A % 4294967296 := rfl
  have lB : lw false B = B % 4294967296 := rfl
  have mF : Mw false = 4294967296 := rfl
  have mT : Mw true = 18446744073709551616 := rfl
  have nF : Nw false = 32 := rfl
  have nT : Nw true = 64 := rfl
  have lA' : lw true A = A := rfl
  have lB' : lw true B = B := rfl
  have ones64 : ∀ {X : Nat}, X < 18446744073709551616 → xorI .u64 18446744073709551615 (X : Int) = ((18446744073709551615 - X : Nat) : Int) := fun {X} hX => by
    have h1 := xor64 (A := 18446744073709551615) (B := X) (by decide) hX
    have h2 := ones_xor 64 X hX
    rw [show (2 : Nat) ^ 64 - 1 = 18446744073709551615 from rfl] at h2
    rw [show ((18446744073709551615 : Nat) : Int) = 18446744073709551615 from rfl] at h1
    rw [h1, h2]
  rw [aDo_arsh w hA hB]
  have top : ∀ (X c : Nat), c ≤ 63 → X < 2 ^ (c + 1) → X < 18446744073709551616 → (andI .u64 (shrI .u64 (X : Int) (c : Int)) 1 == 1) = decide (2 ^ c ≤ X) := fun X c hc hX hX6 => by
    have hl : X / 2 ^ c < 18446744073709551616 := Nat.lt_of_le_of_lt (Nat.div_le_self _ _) hX6
    have h1 := and64 (A := X / 2 ^ c) (B := 1) hl (by decide)
    rw [show ((1 : Nat) : Int) = 1 from rfl] at h1
    have hp : 0 < 2 ^ c := Nat.two_pow_pos c
    rw [Nat.pow_succ] at hX
    rw [shr64 (by omega), h1, show (1 : Nat) = 2 ^ 1 - 1 from rfl, Nat.and_two_pow_sub_one_eq_mod]
    by_cases hh : 2 ^ c ≤ X
    · have : X / 2 ^ c = 1 := by rw [Nat.div_eq_iff hp]; omega
      rw [this, decide_eq_true hh]; rfl
    · rw [Nat.div_eq_of_lt (by omega), decide_eq_false hh]; rfl
  cases w
  · show (F_rLow (F_down (F_rLow A) (Int.tmod (F_rLow B) 32) 32 (andI .u64 (shrI .u64 (F_rLow A) 31) 1 == 1)), true) = _
    have hk : B % 4294967296 % 32 < 32 := Nat.mod_lt _ (by decide)
    have t := top (A % 4294967296) 31 (by decide) hA2 hA3
    rw [show ((31 : Nat) : Int) = 31 from rfl, show (2 : Nat) ^ 31 = 2147483648 from rfl] at t
    rw [rLow_nat, rLow_nat, t, show (32 : Int) = ((32 : Nat) : Int) from rfl, tmod_nat, F_down, show (0 : Int) = ((0 : Nat) : Int) from rfl, lA, lB, nF, sg32, mF]
    generalize hX : A % 4294967296 = X at *
    generalize hkk : B % 4294967296 % 32 = k at *
    refine pr ?_
    by_cases hh : 2147483648 ≤ X
    · have d := down_ones 31 (.inl rfl) 66 k 0 k X (Nat.zero_add _) (by omega) (by omega) hA2
      rw [show (2 : Int) ^ (31 + 1) = 4294967296 from rfl] at d
      have e1 : (((X + 2147483648) % 4294967296 : Nat) : Int) - 2147483648 = (X : Int) - 4294967296 := by omega
      have hz : -4294967296 ≤ ((X : Int) - 4294967296) / 2 ^ k ∧ ((X : Int) - 4294967296) / 2 ^ k < 0 := by
        have hp : (0 : Int) < 2 ^ k := Int.pow_pos (by decide)
        have hp1 : (1 : Int) ≤ 2 ^ k := hp
        refine ⟨?_, Int.ediv_neg_of_neg_of_pos (by omega) hp⟩
        have := Int.le_ediv_of_mul_le hp (a := -4294967296) (b := (X : Int) - 4294967296) (by
          have := Int.mul_le_mul_of_nonneg_left hp1 (show (0 : Int) ≤ 4294967296 by decide)
          rw [Int.neg_mul]
          generalize (4294967296 : Int) * 2 ^ k = zz at *
          omega)
        exact this
      rw [decide_eq_true hh, d, e1]
      generalize ((X : Int) - 4294967296) / 2 ^ k = z at hz
      rw [show (4294967296 : Int) + z = ((4294967296 + z).toNat : Int) from by omega, rLow_nat]
      omega
    · have e1 : (((X + 2147483648) % 4294967296 : Nat) : Int) - 2147483648 = (X : Int) := by omega
      rw [decide_eq_false hh, down_loop 66 k 0 k 32 X (Nat.zero_add _) (by omega) (by omega) hA3, e1, rLow_nat]
      have : X / 2 ^ k < 4294967296 := Nat.lt_of_le_of_lt (Nat.div_le_self _ _) hA2
      rw [Nat.mod_eq_of_lt this, show ((X : Int) / 2 ^ k) = ((X / 2 ^ k : Nat) : Int) from by simp]
      generalize X / 2 ^ k = q at *
      omega
  · show (F_down (A : Int) (Int.tmod (B : Int) 64) 64 (andI .u64 (shrI .u64 (A : Int) 63) 1 == 1), true) = _
    have hk : B % 64 < 64 := Nat.mod_lt _ (by decide)
    have t := top A 63 (by decide) hA hA
    rw [show ((63 : Nat) : Int) = 63 from rfl, show (2 : Nat) ^ 63 = 9223372036854775808 from rfl] at t
    rw [t, show (64 : Int) = ((64 : Nat) : Int) from rfl, tmod_nat, F_down, show (0 : Int) = ((0 : Nat) : Int) from rfl, lA', lB', nT, sg64, mT]
    generalize hkk : B % 64 = k at *
    refine pr ?_
    by_cases hh : 9223372036854775808 ≤ A
    · have d := down_ones 63 (.inr rfl) 66 k 0 k A (Nat.zero_add _) (by omega) (by omega) hA
      rw [show (2 : Int) ^ (63 + 1) = 18446744073709551616 from rfl] at d
      have e1 : (((A + 9223372036854775808) % 18446744073709551616 : Nat) : Int) - 9223372036854775808 = (A : Int) - 18446744073709551616 := by omega
      have hz : -18446744073709551616 ≤ ((A : Int) - 18446744073709551616) / 2 ^ k ∧ ((A : Int) - 18446744073709551616) / 2 ^ k < 0 := by
        have hp : (0 : Int) < 2 ^ k := Int.pow_pos (by decide)
        have hp1 : (1 : Int) ≤ 2 ^ k := hp
        refine ⟨?_, Int.ediv_neg_of_neg_of_pos (by omega) hp⟩
        have := Int.le_ediv_of_mul_le hp (a := -18446744073709551616) (b := (A : Int) - 18446744073709551616) (by
          have := Int.mul_le_mul_of_nonneg_left hp1 (show (0 : Int) ≤ 18446744073709551616 by decide)
          rw [Int.neg_mul]
          generalize (18446744073709551616 : Int) * 2 ^ k = zz at *
          omega)
        exact this
      rw [decide_eq_true hh, d, e1]
      generalize ((A : Int) - 18446744073709551616) / 2 ^ k = z at hz
      omega
    · have e1 : (((A + 9223372036854775808) % 18446744073709551616 : Nat) : Int) - 9223372036854775808 = (A : Int) := by omega
      rw [decide_eq_false hh, down_loop 66 k 0 k 64 A (Nat.zero_add _) (by omega) (by omega) hA, e1]
      have : A / 2 ^ k < 18446744073709551616 := Nat.lt_of_le_of_lt (Nat.div_le_self _ _) hA
      rw [show ((A : Int) / 2 ^ k) = ((A / 2 ^ k : Nat) : Int) from by simp]
      generalize A / 2 ^ k = q at *
      omega

theorem rDo_neg (w : Bool) {A B : Nat} (hA : A < 18446744073709551616) (hB : B < 18446744073709551616) : F_rDo 128 w (A : Int) (B : Int) = F_aDo 128 w (A : Int) (B : Int) := by
  have hA2 : A % 4294967296 < 4294967296 := Nat.mod_lt _ (by decide)
  have hB2 : B % 4294967296 < 4294967296 := Nat.mod_lt _ (by decide)
  have hA3 : A % 4294967296 < 18446744073709551616 := by omega
  have hB3 : B % 4294967296 < 18446744073709551616 := by omega
  have pr : ∀ {x y : Int}, x = y → (x, true) = (y, true) := fun h => by rw [h]
  have lA : lw false A = A % 4294967296 := rfl
  have lB : lw false B = B % 4294967296 := rfl
  have mF : Mw false = 4294967296 := rfl
  have mT : Mw true = 18446744073709551616 := rfl
  have nF : Nw false = 32 := rfl
  have nT : Nw true = 64 := rfl
  have lA' : lw true A = A := rfl
  have lB' : lw true B = B := rfl
  have ones64 : ∀ {X : Nat}, X < 18446744073709551616 → xorI .u64 18446744073709551615 (X : Int) = ((18446744073709551615 - X : Nat) : Int) := fun {X} hX => by
    have h1 := xor64 (A := 18446744073709551615) (B := X) (by decide) hX
    have h2 := ones_xor 64 X hX
    rw [show (2 : Nat) ^ 64 - 1 = 18446744073709551615 from rfl] at h2
    rw [show ((18446744073709551615 : Nat) : Int) = 18446744073709551615 from rfl] at h1
    rw [h1, h2]
  rw [aDo_neg w hA hB]
  cases w
  · show (F_rLow (IntKind.u64.wrap (xorI .u64 18446744073709551615 (F_rLow A) + 1)), true) = _
    rw [rLow_nat, ones64 hA3, wrap_u64, lA, mF]
    rw [show (((18446744073709551615 - A % 4294967296 : Nat) : Int) + 1) % 18446744073709551616 = (((18446744073709551616 - A % 4294967296) % 18446744073709551616 : Nat) : Int) from by omega, rLow_nat]
    refine pr ?_
    congr 1; omega
  · show (IntKind.u64.wrap (xorI .u64 18446744073709551615 (A : Int) + 1), true) = _
    rw [ones64 hA, wrap_u64, lA', mT]
    refine pr ?_
    omega

theorem rDo_mov (w : Bool) {A B : Nat} (hA : A < 18446744073709551616) (hB : B < 18446744073709551616) : F_rDo 176 w (A : Int) (B : Int) = F_aDo 176 w (A : Int) (B : Int) := by
  have hA2 : A % 4294967296 < 4294967296 := Nat.mod_lt _ (by decide)
  have hB2 : B % 4294967296 < 4294967296 := Nat.mod_lt _ (by decide)
  have hA3 : A % 4294967296 < 18446744073709551616 := by omega
  have hB3 : B % 4294967296 < 18446744073709551616 := by omega
  have pr : ∀ {x y : Int}, x = y → (x, true) = (y, true) := fun h => by rw [h]
  have lA : lw false A = A % 4294967296 := rfl
  have lB : lw false B = B % 4294967296 := rfl
  have mF : Mw false = 4294967296 := rfl
  have mT : Mw true = 18446744073709551616 := rfl
  have nF : Nw false = 32 := rfl
  have nT : Nw true = 64 := rfl
  have lA' : lw true A = A := rfl
  have lB' : lw true B = B := rfl
  have ones64 : ∀ {X : Nat}, X < 18446744073709551616 → xorI .u64 18446744073709551615 (X : Int) = ((18446744073709551615 - X : Nat) : Int) := fun {X} hX => by
    have h1 := xor64 (A := 18446744073709551615) (B := X) (by decide) hX
    have h2 := ones_xor 64 X hX
    rw [show (2 : Nat) ^ 64 - 1 = 18446744073709551615 from rfl] at h2
    rw [show ((18446744073709551615 : Nat) : Int) = 18446744073709551615 from rfl] at h1
    rw [h1, h2]
  rw [aDo_mov w hA hB]
  cases w
  · show (F_rLow (F_rLow B), true) = _
    rw [rLow_nat, rLow_nat, Nat.mod_mod, lB]
  · rfl

theorem rDo_eq (w : Bool) (op : Int) {A B : Nat} (hA : A < 18446744073709551616) (hB : B < 18446744073709551616) : F_rDo op w (A : Int) (B : Int) = F_aDo op w (A : Int) (B : Int) := by
  by_cases h : op = 0
  · subst h; exact rDo_add w hA hB
  by_cases h : op = 16
  · subst h; exact rDo_sub w hA hB
  by_cases h : op = 32
  · subst h; exact rDo_mul w hA hB
  by_cases h : op = 48
  · subst h; exact rDo_div w hA hB
  by_cases h : op = 144
  · subst h; exact rDo_mod w hA hB
  by_cases h : op = 64
  · subst h; exact rDo_or w hA hB
  by_cases h : op = 80
  · subst h; exact rDo_and w hA hB
  by_cases h : op = 160
  · subst h; exact rDo_xor w hA hB
  by_cases h : op = 96
  · subst h; exact rDo_lsh w hA hB
  by_cases h : op = 112
  · subst h; exact rDo_rsh w hA hB
  by_cases h : op = 192
  · subst h; exact rDo_arsh w hA hB
  by_cases h : op = 128
  · subst h; exact rDo_neg w hA hB
  by_cases h : op = 176
  · subst h; exact rDo_mov w hA hB
  have n : ∀ k : Int, op ≠ k → (op == k) = false := fun k hk => beq_eq_false_iff_ne.2 hk
  unfold F_rDo F_aDo F_do64 F_do32
  cases w <;> simp only [Bool.not_false, Bool.not_true, cond_true, cond_false, n 0 (by assumption), n 16 (by assumption), n 32 (by assumption), n 48 (by assumption), n 144 (by assumption), n 64 (by assumption), n 80 (by assumption), n 160 (by assumption), n 96 (by assumption), n 112 (by assumption), n 192 (by assumption), n 128 (by assumption), n 176 (by assumption)]
  rw [wrap_u64]; rfl

end Dd