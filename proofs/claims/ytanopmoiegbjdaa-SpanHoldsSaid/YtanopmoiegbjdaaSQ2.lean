/- PRINTED by mk2.py: what each operation comes to, of numbers in range. -/
import Derived.Test.YtanopmoiegbjdaaSQ0
import Derived.Test.YtanopmoiegbjdaaSQ1
namespace Dd
open Go
set_option linter.unusedVariables false
set_option linter.unusedSimpArgs false

def Mw (w : Bool) : Nat := bif w then 18446744073709551616 else 4294967296
def Nw (w : Bool) : Nat := bif w then 64 else 32
def lw (w : Bool) (A : Nat) : Nat := bif w then A else A % 4294967296
theorem lw_lt (w : Bool) {A : Nat} (h : A < 18446744073709551616) : lw w A < Mw w := by
  cases w
  · exact Nat.mod_lt _ (by decide)
  · exact h
theorem Mw_le (w : Bool) : Mw w ≤ 18446744073709551616 := by cases w <;> decide
theorem Mw_eq (w : Bool) : Mw w = 2 ^ Nw w := by cases w <;> rfl
theorem lw_le (w : Bool) (A : Nat) : lw w A ≤ A := by
  cases w
  · exact Nat.mod_le _ _
  · exact Nat.le_refl _

theorem aDo_add (w : Bool) {A B : Nat} (hA : A < 18446744073709551616) (hB : B < 18446744073709551616) : F_aDo 0 w (A : Int) (B : Int) = ((((lw w A + lw w B) % Mw w : Nat) : Int), true) := by
  cases w
  · have hA2 : A % 4294967296 < 4294967296 := Nat.mod_lt _ (by decide)
    have hB2 : B % 4294967296 < 4294967296 := Nat.mod_lt _ (by decide)
    simp only [F_aDo, cond_false, w32]
    show (IntKind.u64.wrap (IntKind.u32.wrap (((A % 4294967296 : Nat) : Int) + ((B % 4294967296 : Nat) : Int))), true) = _
    rw [wrap_u64, wrap_u32]; simp only [lw, Mw, Nw, cond_true, cond_false]; congr 1; omega
  · simp only [F_aDo, cond_true]
    show (IntKind.u64.wrap ((A : Int) + (B : Int)), true) = _
    rw [wrap_u64]; simp only [lw, Mw, Nw, cond_true, cond_false]; congr 1
theorem aDo_sub (w : Bool) {A B : Nat} (hA : A < 18446744073709551616) (hB : B < 18446744073709551616) : F_aDo 16 w (A : Int) (B : Int) = ((((lw w A + Mw w - lw w B) % Mw w : Nat) : Int), true) := by
  cases w
  · have hA2 : A % 4294967296 < 4294967296 := Nat.mod_lt _ (by decide)
    have hB2 : B % 4294967296 < 4294967296 := Nat.mod_lt _ (by decide)
    simp only [F_aDo, cond_false, w32]
    show (IntKind.u64.wrap (IntKind.u32.wrap (((A % 4294967296 : Nat) : Int) - ((B % 4294967296 : Nat) : Int))), true) = _
    rw [wrap_u64, wrap_u32]; simp only [lw, Mw, Nw, cond_true, cond_false]; congr 1; omega
  · simp only [F_aDo, cond_true]
    show (IntKind.u64.wrap ((A : Int) - (B : Int)), true) = _
    rw [wrap_u64]; simp only [lw, Mw, Nw, cond_true, cond_false]; congr 1; omega
theorem aDo_mul (w : Bool) {A B : Nat} (hA : A < 18446744073709551616) (hB : B < 18446744073709551616) : F_aDo 32 w (A : Int) (B : Int) = ((((lw w A * lw w B) % Mw w : Nat) : Int), true) := by
  cases w
  · have hA2 : A % 4294967296 < 4294967296 := Nat.mod_lt _ (by decide)
    have hB2 : B % 4294967296 < 4294967296 := Nat.mod_lt _ (by decide)
    simp only [F_aDo, cond_false, w32]
    show (IntKind.u64.wrap (IntKind.u32.wrap (((A % 4294967296 : Nat) : Int) * ((B % 4294967296 : Nat) : Int))), true) = _
    rw [show (((A % 4294967296 : Nat) : Int)) * (((B % 4294967296 : Nat) : Int)) = ((A % 4294967296 * (B % 4294967296) : Nat) : Int) from by simp, w32, w64, Nat.mod_eq_of_lt (Nat.lt_trans (Nat.mod_lt _ (by decide)) (by decide))]; rfl
  · simp only [F_aDo, cond_true]
    show (IntKind.u64.wrap ((A : Int) * (B : Int)), true) = _
    rw [show (A : Int) * (B : Int) = ((A * B : Nat) : Int) from by simp, w64]; rfl
theorem aDo_or (w : Bool) {A B : Nat} (hA : A < 18446744073709551616) (hB : B < 18446744073709551616) : F_aDo 64 w (A : Int) (B : Int) = (((lw w A ||| lw w B : Nat) : Int), true) := by
  cases w
  · have hA2 : A % 4294967296 < 4294967296 := Nat.mod_lt _ (by decide)
    have hB2 : B % 4294967296 < 4294967296 := Nat.mod_lt _ (by decide)
    simp only [F_aDo, cond_false, w32]
    show (IntKind.u64.wrap (orI .u32 ((A % 4294967296 : Nat) : Int) ((B % 4294967296 : Nat) : Int)), true) = _
    rw [or32 hA2 hB2, w64, Nat.mod_eq_of_lt (Nat.lt_trans (or_lt32 hA2 hB2) (by decide))]; rfl
  · simp only [F_aDo, cond_true]
    show (orI .u64 (A : Int) (B : Int), true) = _
    rw [or64 hA hB]; rfl
theorem aDo_and (w : Bool) {A B : Nat} (hA : A < 18446744073709551616) (hB : B < 18446744073709551616) : F_aDo 80 w (A : Int) (B : Int) = (((lw w A &&& lw w B : Nat) : Int), true) := by
  cases w
  · have hA2 : A % 4294967296 < 4294967296 := Nat.mod_lt _ (by decide)
    have hB2 : B % 4294967296 < 4294967296 := Nat.mod_lt _ (by decide)
    simp only [F_aDo, cond_false, w32]
    show (IntKind.u64.wrap (andI .u32 ((A % 4294967296 : Nat) : Int) ((B % 4294967296 : Nat) : Int)), true) = _
    rw [and32 hA2 hB2, w64, Nat.mod_eq_of_lt (Nat.lt_trans (and_lt _ _ _ hA2) (by decide))]; rfl
  · simp only [F_aDo, cond_true]
    show (andI .u64 (A : Int) (B : Int), true) = _
    rw [and64 hA hB]; rfl
theorem aDo_xor (w : Bool) {A B : Nat} (hA : A < 18446744073709551616) (hB : B < 18446744073709551616) : F_aDo 160 w (A : Int) (B : Int) = (((lw w A ^^^ lw w B : Nat) : Int), true) := by
  cases w
  · have hA2 : A % 4294967296 < 4294967296 := Nat.mod_lt _ (by decide)
    have hB2 : B % 4294967296 < 4294967296 := Nat.mod_lt _ (by decide)
    simp only [F_aDo, cond_false, w32]
    show (IntKind.u64.wrap (xorI .u32 ((A % 4294967296 : Nat) : Int) ((B % 4294967296 : Nat) : Int)), true) = _
    rw [xor32 hA2 hB2, w64, Nat.mod_eq_of_lt (Nat.lt_trans (xor_lt32 hA2 hB2) (by decide))]; rfl
  · simp only [F_aDo, cond_true]
    show (xorI .u64 (A : Int) (B : Int), true) = _
    rw [xor64 hA hB]; rfl
theorem aDo_lsh (w : Bool) {A B : Nat} (hA : A < 18446744073709551616) (hB : B < 18446744073709551616) : F_aDo 96 w (A : Int) (B : Int) = ((((lw w A * 2 ^ (lw w B % Nw w)) % Mw w : Nat) : Int), true) := by
  cases w
  · have hA2 : A % 4294967296 < 4294967296 := Nat.mod_lt _ (by decide)
    have hB2 : B % 4294967296 < 4294967296 := Nat.mod_lt _ (by decide)
    simp only [F_aDo, cond_false, w32]
    show (IntKind.u64.wrap (shlI .u32 ((A % 4294967296 : Nat) : Int) (Int.tmod (IntKind.u64.wrap ((B % 4294967296 : Nat) : Int)) 32)), true) = _
    rw [w64, show (32 : Int) = ((32 : Nat) : Int) from rfl, tmod_nat, shl32 (by omega), w64, Nat.mod_eq_of_lt (Nat.lt_trans hB2 (by decide)), Nat.mod_eq_of_lt (Nat.lt_trans (Nat.mod_lt _ (by decide)) (by decide))]; rfl
  · simp only [F_aDo, cond_true]
    show (shlI .u64 (A : Int) (Int.tmod (B : Int) 64), true) = _
    rw [show (64 : Int) = ((64 : Nat) : Int) from rfl, tmod_nat, shl64 (by omega)]; rfl
theorem aDo_rsh (w : Bool) {A B : Nat} (hA : A < 18446744073709551616) (hB : B < 18446744073709551616) : F_aDo 112 w (A : Int) (B : Int) = (((lw w A / 2 ^ (lw w B % Nw w) : Nat) : Int), true) := by
  cases w
  · have hA2 : A % 4294967296 < 4294967296 := Nat.mod_lt _ (by decide)
    have hB2 : B % 4294967296 < 4294967296 := Nat.mod_lt _ (by decide)
    simp only [F_aDo, cond_false, w32]
    show (IntKind.u64.wrap (shrI .u32 ((A % 4294967296 : Nat) : Int) (Int.tmod (IntKind.u64.wrap ((B % 4294967296 : Nat) : Int)) 32)), true) = _
    rw [w64, show (32 : Int) = ((32 : Nat) : Int) from rfl, tmod_nat, shr32 (by omega), w64, Nat.mod_eq_of_lt (Nat.lt_trans hB2 (by decide)), Nat.mod_eq_of_lt (Nat.lt_of_le_of_lt (Nat.div_le_self _ _) (Nat.lt_trans hA2 (by decide)))]; rfl
  · simp only [F_aDo, cond_true]
    show (shrI .u64 (A : Int) (Int.tmod (B : Int) 64), true) = _
    rw [show (64 : Int) = ((64 : Nat) : Int) from rfl, tmod_nat, shr64 (by omega)]; rfl
theorem aDo_neg (w : Bool) {A B : Nat} (hA : A < 18446744073709551616) (hB : B < 18446744073709551616) : F_aDo 128 w (A : Int) (B : Int) = ((((Mw w - lw w A) % Mw w : Nat) : Int), true) := by
  cases w
  · have hA2 : A % 4294967296 < 4294967296 := Nat.mod_lt _ (by decide)
    have hB2 : B % 4294967296 < 4294967296 := Nat.mod_lt _ (by decide)
    simp only [F_aDo, cond_false, w32]
    show (IntKind.u64.wrap (IntKind.u32.wrap (0 - ((A % 4294967296 : Nat) : Int))), true) = _
    rw [wrap_u64, wrap_u32]; simp only [lw, Mw, Nw, cond_true, cond_false]; congr 1; omega
  · simp only [F_aDo, cond_true]
    show (IntKind.u64.wrap (0 - (A : Int)), true) = _
    rw [wrap_u64]; simp only [lw, Mw, Nw, cond_true, cond_false]; congr 1; omega
theorem aDo_mov (w : Bool) {A B : Nat} (hA : A < 18446744073709551616) (hB : B < 18446744073709551616) : F_aDo 176 w (A : Int) (B : Int) = (((lw w B : Nat) : Int), true) := by
  cases w
  · have hA2 : A % 4294967296 < 4294967296 := Nat.mod_lt _ (by decide)
    have hB2 : B % 4294967296 < 4294967296 := Nat.mod_lt _ (by decide)
    simp only [F_aDo, cond_false, w32]
    show (IntKind.u64.wrap (((B % 4294967296 : Nat) : Int)), true) = _
    rw [w64, Nat.mod_eq_of_lt (Nat.lt_trans hB2 (by decide))]; rfl
  · simp only [F_aDo, cond_true]
    show ((B : Int), true) = _
    rfl
theorem aDo_div (w : Bool) {A B : Nat} (hA : A < 18446744073709551616) (hB : B < 18446744073709551616) : F_aDo 48 w (A : Int) (B : Int) = ((((if lw w B = 0 then 0 else lw w A / lw w B) : Nat) : Int), true) := by
  cases w
  · have hA2 : A % 4294967296 < 4294967296 := Nat.mod_lt _ (by decide)
    simp only [F_aDo, cond_false, w32]
    show (IntKind.u64.wrap (bif (((B % 4294967296 : Nat) : Int) == 0) then (0, true) else (IntKind.u32.wrap (Int.tdiv ((A % 4294967296 : Nat) : Int) ((B % 4294967296 : Nat) : Int)), true)).1, (bif (((B % 4294967296 : Nat) : Int) == 0) then ((0 : Int), true) else (IntKind.u32.wrap (Int.tdiv ((A % 4294967296 : Nat) : Int) ((B % 4294967296 : Nat) : Int)), true)).2) = _
    show _ = ((((if B % 4294967296 = 0 then 0 else A % 4294967296 / (B % 4294967296)) : Nat) : Int), true)
    by_cases h : B % 4294967296 = 0
    · rw [h]; rfl
    · have hne : (((B % 4294967296 : Nat) : Int) == 0) = false := by rw [beq_eq_false_iff_ne]; omega
      rw [hne, if_neg h]
      simp only [cond_false, tdiv_nat, w32, w64]
      rw [Nat.mod_eq_of_lt (Nat.lt_of_le_of_lt (Nat.div_le_self _ _) hA2), Nat.mod_eq_of_lt (Nat.lt_of_le_of_lt (Nat.div_le_self _ _) (Nat.lt_trans hA2 (by decide)))]
  · simp only [F_aDo, cond_true]
    show ((bif ((B : Int) == 0) then ((0 : Int), true) else (IntKind.u64.wrap (Int.tdiv (A : Int) (B : Int)), true)).1, (bif ((B : Int) == 0) then ((0 : Int), true) else (IntKind.u64.wrap (Int.tdiv (A : Int) (B : Int)), true)).2) = _
    show _ = ((((if B = 0 then 0 else A / B) : Nat) : Int), true)
    by_cases h : B = 0
    · subst h; rfl
    · have hne : ((B : Int) == 0) = false := by rw [beq_eq_false_iff_ne]; omega
      rw [hne, if_neg h]
      simp only [cond_false, tdiv_nat, w64]
      rw [Nat.mod_eq_of_lt (Nat.lt_of_le_of_lt (Nat.div_le_self _ _) hA)]
theorem aDo_mod (w : Bool) {A B : Nat} (hA : A < 18446744073709551616) (hB : B < 18446744073709551616) : F_aDo 144 w (A : Int) (B : Int) = ((((if lw w B = 0 then lw w A else lw w A % lw w B) : Nat) : Int), true) := by
  cases w
  · have hA2 : A % 4294967296 < 4294967296 := Nat.mod_lt _ (by decide)
    simp only [F_aDo, cond_false, w32]
    show (IntKind.u64.wrap (bif (((B % 4294967296 : Nat) : Int) == 0) then (((A % 4294967296 : Nat) : Int), true) else (Int.tmod ((A % 4294967296 : Nat) : Int) ((B % 4294967296 : Nat) : Int), true)).1, (bif (((B % 4294967296 : Nat) : Int) == 0) then ((((A % 4294967296 : Nat) : Int) : Int), true) else (Int.tmod ((A % 4294967296 : Nat) : Int) ((B % 4294967296 : Nat) : Int), true)).2) = _
    show _ = ((((if B % 4294967296 = 0 then A % 4294967296 else A % 4294967296 % (B % 4294967296)) : Nat) : Int), true)
    by_cases h : B % 4294967296 = 0
    · rw [h]; simp only [if_pos]; show (IntKind.u64.wrap ((A % 4294967296 : Nat) : Int), true) = _; rw [w64, Nat.mod_eq_of_lt (Nat.lt_trans hA2 (by decide))]
    · have hne : (((B % 4294967296 : Nat) : Int) == 0) = false := by rw [beq_eq_false_iff_ne]; omega
      rw [hne, if_neg h]
      simp only [cond_false, tmod_nat, w64]
      rw [Nat.mod_eq_of_lt (Nat.lt_of_le_of_lt (Nat.mod_le _ _) (Nat.lt_trans hA2 (by decide)))]
  · simp only [F_aDo, cond_true]
    show ((bif ((B : Int) == 0) then (((A : Int) : Int), true) else (Int.tmod (A : Int) (B : Int), true)).1, (bif ((B : Int) == 0) then (((A : Int) : Int), true) else (Int.tmod (A : Int) (B : Int), true)).2) = _
    show _ = ((((if B = 0 then A else A % B) : Nat) : Int), true)
    by_cases h : B = 0
    · subst h; rfl
    · have hne : ((B : Int) == 0) = false := by rw [beq_eq_false_iff_ne]; omega
      rw [hne, if_neg h]
      simp only [cond_false, tmod_nat]

/-- a number with its sign -/
def sg (w : Bool) (A : Nat) : Int := bif w then ((A : Int) + 9223372036854775808) % 18446744073709551616 - 9223372036854775808 else ((A : Int) + 2147483648) % 4294967296 - 2147483648
theorem sgn64 (x : Int) : F_sign64 x = (x + 9223372036854775808) % 18446744073709551616 - 9223372036854775808 := by unfold F_sign64; rw [cond_false, wrap_i64]
theorem sg_true (A : Nat) : sg true A = ((A : Int) + 9223372036854775808) % 18446744073709551616 - 9223372036854775808 := by unfold sg; rw [cond_true]
theorem sg_false (A : Nat) : sg false A = ((A : Int) + 2147483648) % 4294967296 - 2147483648 := by unfold sg; rw [cond_false]
theorem sign64_eq (A : Nat) : F_sign64 (A : Int) = sg true A := by rw [sgn64, sg_true]
theorem wrap_i32 (n : Int) : IntKind.i32.wrap n = (n + 2147483648) % 4294967296 - 2147483648 := by
  simp [IntKind.wrap, IntKind.bits, IntKind.signed]; omega
theorem sign32_eq (A : Nat) : F_sign32 (A : Int) = sg false A := by
  unfold F_sign32
  rw [cond_true, wrap_i64, wrap_i32, sg_false]
  omega
theorem aDo_arsh (w : Bool) {A B : Nat} (hA : A < 18446744073709551616) (hB : B < 18446744073709551616) : F_aDo 192 w (A : Int) (B : Int) = ((sg w (lw w A) / 2 ^ (lw w B % Nw w)) % (Mw w : Int), true) := by
  cases w
  · have hB2 : B % 4294967296 < 4294967296 := Nat.mod_lt _ (by decide)
    simp only [F_aDo, cond_false, w32]
    show (IntKind.u64.wrap (IntKind.u32.wrap (shrI .i64 (F_sign32 ((A % 4294967296 : Nat) : Int)) (Int.tmod (IntKind.u64.wrap ((B % 4294967296 : Nat) : Int)) 32))), true) = _
    rw [w64, show (32 : Int) = ((32 : Nat) : Int) from rfl, tmod_nat, sar _ _ (by omega), Nat.mod_eq_of_lt (Nat.lt_trans hB2 (by decide)), wrap_u32, wrap_u64, sign32_eq]
    have e1 : ((Mw false : Nat) : Int) = 4294967296 := rfl
    have e2 : lw false A = A % 4294967296 := rfl
    have e3 : lw false B = B % 4294967296 := rfl
    have e4 : Nw false = 32 := rfl
    rw [e1, e2, e3, e4]
    generalize sg false (A % 4294967296) / 2 ^ (B % 4294967296 % 32) = z
    rw [Int.emod_eq_of_lt (Int.emod_nonneg _ (by decide)) (Int.lt_trans (Int.emod_lt_of_pos _ (by decide)) (by decide))]
  · simp only [F_aDo, cond_true]
    show (IntKind.u64.wrap (shrI .i64 (F_sign64 (A : Int)) (Int.tmod (B : Int) 64)), true) = _
    rw [show (64 : Int) = ((64 : Nat) : Int) from rfl, tmod_nat, sar _ _ (by omega), wrap_u64, sign64_eq]
    have e1 : ((Mw true : Nat) : Int) = 18446744073709551616 := rfl
    have e2 : lw true A = A := rfl
    have e3 : lw true B = B := rfl
    have e4 : Nw true = 64 := rfl
    rw [e1, e2, e3, e4]

theorem cc {α : Type} {c : Bool} {x y u v : α} (h1 : x = u) (h2 : y = v) : (bif c then x else y) = bif c then u else v := by rw [h1, h2]
theorem pair_eta {α β : Type} (p : α × β) : (p.1, p.2) = p := rfl
theorem aTest_eval (w : Bool) (op : Int) {A B : Nat} (hA : A < 18446744073709551616) (hB : B < 18446744073709551616) : F_aTest op w (A : Int) (B : Int) =
    (bif (op == 16) then ((lw w A == lw w B), true) else (bif (op == 80) then ((lw w A != lw w B), true) else (bif (op == 32) then ((decide (lw w A > lw w B)), true) else (bif (op == 48) then ((decide (lw w A ≥ lw w B)), true)
    else (bif (op == 160) then ((decide (lw w A < lw w B)), true) else (bif (op == 176) then ((decide (lw w A ≤ lw w B)), true) else (bif (op == 64) then (((lw w A &&& lw w B) != 0), true)
    else (bif (op == 96) then ((decide (sg w (lw w A) > sg w (lw w B))), true) else (bif (op == 112) then ((decide (sg w (lw w A) ≥ sg w (lw w B))), true) else (bif (op == 192) then ((decide (sg w (lw w A) < sg w (lw w B))), true)
    else (bif (op == 208) then ((decide (sg w (lw w A) ≤ sg w (lw w B))), true) else (false, false)))))))))))) := by
  have c1 : ∀ x y : Nat, ((x : Int) == (y : Int)) = (x == y) := fun x y => Bool.eq_iff_iff.2 (by rw [beq_iff_eq, beq_iff_eq]; omega)
  have c2 : ∀ x y : Nat, ((x : Int) != (y : Int)) = (x != y) := fun x y => by simp only [bne, c1]
  have c0 : ∀ x : Nat, ((x : Int) != 0) = (x != 0) := fun x => c2 x 0
  have d1 : ∀ x y : Nat, decide ((x : Int) > (y : Int)) = decide (x > y) := fun x y => decide_eq_decide.2 (by omega)
  have d2 : ∀ x y : Nat, decide ((x : Int) ≥ (y : Int)) = decide (x ≥ y) := fun x y => decide_eq_decide.2 (by omega)
  have d3 : ∀ x y : Nat, decide ((x : Int) < (y : Int)) = decide (x < y) := fun x y => decide_eq_decide.2 (by omega)
  have d4 : ∀ x y : Nat, decide ((x : Int) ≤ (y : Int)) = decide (x ≤ y) := fun x y => decide_eq_decide.2 (by omega)
  cases w
  · have hA2 : A % 4294967296 < 4294967296 := Nat.mod_lt _ (by decide)
    have hB2 : B % 4294967296 < 4294967296 := Nat.mod_lt _ (by decide)
    show ((F_test32 op (IntKind.u32.wrap (A : Int)) (IntKind.u32.wrap (B : Int))).1, (F_test32 op (IntKind.u32.wrap (A : Int)) (IntKind.u32.wrap (B : Int))).2) = _
    rw [pair_eta, w32, w32]
    unfold F_test32
    have e2 : ∀ X, lw false X = X % 4294967296 := fun _ => rfl
    rw [sign32_eq, sign32_eq, and32 hA2 hB2, e2, e2]
    have p : ∀ {b c : Bool}, b = c → (b, true) = (c, true) := fun h => by rw [h]
    exact cc (p (c1 _ _)) (cc (p (c2 _ _)) (cc (p (d1 _ _)) (cc (p (d2 _ _)) (cc (p (d3 _ _)) (cc (p (d4 _ _)) (cc (p (c0 _)) rfl))))))
  · show ((F_test64 op (A : Int) (B : Int)).1, (F_test64 op (A : Int) (B : Int)).2) = _
    rw [pair_eta]
    unfold F_test64
    have e2 : ∀ X, lw true X = X := fun _ => rfl
    rw [sign64_eq, sign64_eq, and64 hA hB, e2, e2]
    have p : ∀ {b c : Bool}, b = c → (b, true) = (c, true) := fun h => by rw [h]
    exact cc (p (c1 _ _)) (cc (p (c2 _ _)) (cc (p (d1 _ _)) (cc (p (d2 _ _)) (cc (p (d3 _ _)) (cc (p (d4 _ _)) (cc (p (c0 _)) rfl))))))

end Dd
