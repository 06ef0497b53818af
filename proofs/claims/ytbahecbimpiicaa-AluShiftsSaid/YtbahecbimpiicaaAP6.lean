/- The plain laws AluDoes and AluShifts. -/
import Derived.Test.YtbahecbimpiicaaAP5
namespace Dd
open Go Go.RowKit
set_option linter.unusedVariables false
set_option linter.unusedSimpArgs false

theorem inOps (op : Int) : F_In F_Ops.1 F_Ops.2 op = (bif (0 : Int) == op then true else bif (16 : Int) == op then true else bif (32 : Int) == op then true else bif (48 : Int) == op then true else bif (64 : Int) == op then true else bif (80 : Int) == op then true
    else bif (96 : Int) == op then true else bif (112 : Int) == op then true else bif (128 : Int) == op then true else bif (144 : Int) == op then true else bif (160 : Int) == op then true else bif (176 : Int) == op then true else bif (192 : Int) == op then true else false) := by kernel_rfl
theorem sameOps : F_same F_Ops.1 F_Ops.2 F_rOps.1 F_rOps.2 = true := by kernel_rfl
theorem aDo_snd (w : Bool) (op : Int) {A B : Nat} (hA : A < 18446744073709551616) (hB : B < 18446744073709551616) : (F_aDo op w (A : Int) (B : Int)).2 = F_In F_Ops.1 F_Ops.2 op := by
  rw [inOps]
  by_cases h0 : op = 0; · subst h0; rw [aDo_add w hA hB]; rfl
  by_cases h1 : op = 16; · subst h1; rw [aDo_sub w hA hB]; rfl
  by_cases h2 : op = 32; · subst h2; rw [aDo_mul w hA hB]; rfl
  by_cases h3 : op = 48; · subst h3; rw [aDo_div w hA hB]; rfl
  by_cases h4 : op = 64; · subst h4; rw [aDo_or w hA hB]; rfl
  by_cases h5 : op = 80; · subst h5; rw [aDo_and w hA hB]; rfl
  by_cases h6 : op = 96; · subst h6; rw [aDo_lsh w hA hB]; rfl
  by_cases h7 : op = 112; · subst h7; rw [aDo_rsh w hA hB]; rfl
  by_cases h8 : op = 128; · subst h8; rw [aDo_neg w hA hB]; rfl
  by_cases h9 : op = 144; · subst h9; rw [aDo_mod w hA hB]; rfl
  by_cases h10 : op = 160; · subst h10; rw [aDo_xor w hA hB]; rfl
  by_cases h11 : op = 176; · subst h11; rw [aDo_mov w hA hB]; rfl
  by_cases h12 : op = 192; · subst h12; rw [aDo_arsh w hA hB]; rfl
  have n : ∀ k : Int, op ≠ k → (op == k) = false ∧ (k == op) = false := fun k hk => ⟨beq_eq_false_iff_ne.2 hk, beq_eq_false_iff_ne.2 (fun e => hk e.symm)⟩
  unfold F_aDo F_do64 F_do32
  cases w <;> simp only [cond_true, cond_false, (n 0 h0).1, (n 0 h0).2, (n 16 h1).1, (n 16 h1).2, (n 32 h2).1, (n 32 h2).2, (n 48 h3).1, (n 48 h3).2, (n 64 h4).1, (n 64 h4).2, (n 80 h5).1, (n 80 h5).2, (n 96 h6).1, (n 96 h6).2, (n 112 h7).1, (n 112 h7).2, (n 128 h8).1, (n 128 h8).2, (n 144 h9).1, (n 144 h9).2, (n 160 h10).1, (n 160 h10).2, (n 176 h11).1, (n 176 h11).2, (n 192 h12).1, (n 192 h12).2]

theorem AluDoes_true (a0 : Int) (a1 : Bool) (a2 a3 : Int) (w0 : (Lit.int .u8 a0).wf = true) (w2 : (Lit.int .u64 a2).wf = true) (w3 : (Lit.int .u64 a3).wf = true) : F_AluDoes a0 a1 a2 a3 = true := by
  obtain ⟨A, rfl, hA⟩ := nat64 w2
  obtain ⟨B, rfl, hB⟩ := nat64 w3
  unfold F_AluDoes
  rw [shown_true, rDo_eq a1 a0 hA hB, aDo_snd a1 a0 hA hB, sameOps]
  simp only [beq_self_eq_true, cond_true]

/-! Try# shifts -/
theorem fl (x : Int) (k : Nat) {H : Int} (hH : 0 ≤ H) (h1 : -H ≤ x) (h2 : x < H) : -H ≤ x / 2 ^ k ∧ x / 2 ^ k < H := by
  have hp : (0 : Int) < 2 ^ k := Int.pow_pos (by decide)
  have hp1 : (1 : Int) ≤ 2 ^ k := hp
  have hz := Int.mul_le_mul_of_nonneg_left hp1 hH
  refine ⟨Int.le_ediv_of_mul_le hp ?_, Int.ediv_lt_of_lt_mul hp ?_⟩
  · rw [Int.neg_mul]; generalize H * 2 ^ k = z at *; omega
  · generalize H * 2 ^ k = z at *; omega
def Hw (w : Bool) : Int := bif w then 9223372036854775808 else 2147483648
theorem Hw_nn (w : Bool) : 0 ≤ Hw w := by cases w <;> decide
theorem sg_range (w : Bool) (A : Nat) : -Hw w ≤ sg w A ∧ sg w A < Hw w := by
  cases w
  · rw [sg_false, show Hw false = 2147483648 from rfl]; omega
  · rw [sg_true, show Hw true = 9223372036854775808 from rfl]; omega
theorem sg_mod (w : Bool) {A : Nat} (hA : A < Mw w) : sg w A % (Mw w : Int) = (A : Int) := by
  cases w
  · rw [show Mw false = 4294967296 from rfl] at hA
    rw [sg_false, show ((Mw false : Nat) : Int) = 4294967296 from rfl]; omega
  · rw [show Mw true = 18446744073709551616 from rfl] at hA
    rw [sg_true, show ((Mw true : Nat) : Int) = 18446744073709551616 from rfl]; omega
theorem sg_inv (w : Bool) {z : Int} {Z : Nat} (h1 : -Hw w ≤ z) (h2 : z < Hw w) (e : z % (Mw w : Int) = (Z : Int)) : sg w Z = z := by
  cases w
  · rw [show Hw false = 2147483648 from rfl] at h1 h2
    rw [show ((Mw false : Nat) : Int) = 4294967296 from rfl] at e
    rw [sg_false]; omega
  · rw [show Hw true = 9223372036854775808 from rfl] at h1 h2
    rw [show ((Mw true : Nat) : Int) = 18446744073709551616 from rfl] at e
    rw [sg_true]; omega
theorem Nw_le (w : Bool) : Nw w ≤ 64 := by cases w <;> decide
theorem lwN (w : Bool) {k : Nat} (h : k < Nw w) : lw w k % Nw w = k := by
  cases w
  · rw [show Nw false = 32 from rfl] at *; rw [show lw false k = k % 4294967296 from rfl]; omega
  · rw [show Nw true = 64 from rfl] at *; rw [show lw true k = k from rfl]; omega
theorem lwNN (w : Bool) : lw w (Nw w) % Nw w = 0 := by cases w <;> rfl
theorem modNat (w : Bool) (z : Int) : ∃ Z : Nat, z % (Mw w : Int) = (Z : Int) ∧ Z < Mw w := by
  have hp : 0 < Mw w := Mw_pos w
  refine ⟨(z % (Mw w : Int)).toNat, ?_, ?_⟩
  · have := Int.emod_nonneg z (show (Mw w : Int) ≠ 0 by omega); omega
  · have := Int.emod_lt_of_pos z (show (0 : Int) < (Mw w : Int) by omega); omega

section
variable (w : Bool) {A m n : Nat} (hA : A < Mw w) (hm : m < Nw w) (hn : m + n < Nw w)
include hA hm hn
theorem s_lsh : (F_aDo 96 w (F_aDo 96 w (A : Int) (m : Int)).1 (n : Int)).1 = (F_aDo 96 w (A : Int) ((m + n : Nat) : Int)).1 := by
  have hN := Nw_le w
  have hA6 := lt64 hA
  have s1 : A * 2 ^ m % Mw w < Mw w := Nat.mod_lt _ (Mw_pos w)
  rw [aDo_lsh w hA6 (show m < 18446744073709551616 by omega), lw_of hA, lwN w hm, aDo_lsh w (lt64 s1) (show n < 18446744073709551616 by omega), lw_of s1, lwN w (show n < Nw w by omega),
    aDo_lsh w hA6 (show m + n < 18446744073709551616 by omega), lw_of hA, lwN w hn, Nat.mod_mul_mod, Nat.pow_add, Nat.mul_assoc]
theorem s_rsh : (F_aDo 112 w (F_aDo 112 w (A : Int) (m : Int)).1 (n : Int)).1 = (F_aDo 112 w (A : Int) ((m + n : Nat) : Int)).1 := by
  have hN := Nw_le w
  have hA6 := lt64 hA
  have s1 : A / 2 ^ m < Mw w := Nat.lt_of_le_of_lt (Nat.div_le_self _ _) hA
  rw [aDo_rsh w hA6 (show m < 18446744073709551616 by omega), lw_of hA, lwN w hm, aDo_rsh w (lt64 s1) (show n < 18446744073709551616 by omega), lw_of s1, lwN w (show n < Nw w by omega),
    aDo_rsh w hA6 (show m + n < 18446744073709551616 by omega), lw_of hA, lwN w hn, Nat.pow_add, Nat.div_div_eq_div_mul]
theorem s_arsh : (F_aDo 192 w (F_aDo 192 w (A : Int) (m : Int)).1 (n : Int)).1 = (F_aDo 192 w (A : Int) ((m + n : Nat) : Int)).1 := by
  have hN := Nw_le w
  have hA6 := lt64 hA
  obtain ⟨Z, hZ, hZl⟩ := modNat w (sg w A / 2 ^ m)
  have hr := sg_range w A
  have hf := fl (sg w A) m (Hw_nn w) hr.1 hr.2
  rw [aDo_arsh w hA6 (show m < 18446744073709551616 by omega), lw_of hA, lwN w hm, hZ, aDo_arsh w (lt64 hZl) (show n < 18446744073709551616 by omega), lw_of hZl, lwN w (show n < Nw w by omega),
    aDo_arsh w hA6 (show m + n < 18446744073709551616 by omega), lw_of hA, lwN w hn, sg_inv w hf.1 hf.2 hZ, Int.pow_add, Int.ediv_ediv_of_nonneg (Int.le_of_lt (Int.pow_pos (by decide)))]
omit hm hn
theorem s_lsh0 : (F_aDo 96 w (A : Int) ((Nw w : Nat) : Int)).1 = (A : Int) := by
  have hN := Nw_le w
  rw [aDo_lsh w (lt64 hA) (show Nw w < 18446744073709551616 by omega), lw_of hA, lwNN, Nat.pow_zero, Nat.mul_one, Nat.mod_eq_of_lt hA]
theorem s_rsh0 : (F_aDo 112 w (A : Int) ((Nw w : Nat) : Int)).1 = (A : Int) := by
  have hN := Nw_le w
  rw [aDo_rsh w (lt64 hA) (show Nw w < 18446744073709551616 by omega), lw_of hA, lwNN, Nat.pow_zero, Nat.div_one]
theorem s_arsh0 : (F_aDo 192 w (A : Int) ((Nw w : Nat) : Int)).1 = (A : Int) := by
  have hN := Nw_le w
  rw [aDo_arsh w (lt64 hA) (show Nw w < 18446744073709551616 by omega), lw_of hA, lwNN, Int.pow_zero, Int.ediv_one, sg_mod w hA]
include hm
theorem s_left : (F_aDo 160 w (A : Int) (F_aDo 96 w (F_aDo 112 w (A : Int) (m : Int)).1 (m : Int)).1).1 = ((A % 2 ^ m : Nat) : Int) := by
  have hN := Nw_le w
  have s1 : A / 2 ^ m < Mw w := Nat.lt_of_le_of_lt (Nat.div_le_self _ _) hA
  have s2 : A / 2 ^ m * 2 ^ m < Mw w := Nat.lt_of_le_of_lt (Nat.div_mul_le_self _ _) hA
  have hm6 : m < 18446744073709551616 := by omega
  rw [aDo_rsh w (lt64 hA) hm6, lw_of hA, lwN w hm, aDo_lsh w (lt64 s1) hm6, lw_of s1, lwN w hm, Nat.mod_eq_of_lt s2, aDo_xor w (lt64 hA) (lt64 s2), lw_of hA, lw_of s2, xor_low]
theorem s_back (h : A < 2 ^ (Nw w - m)) : (F_aDo 112 w (F_aDo 96 w (A : Int) (m : Int)).1 (m : Int)).1 = (A : Int) := by
  have hN := Nw_le w
  have hm6 : m < 18446744073709551616 := by omega
  have s1 : A * 2 ^ m < Mw w := by
    rw [Mw_eq, show Nw w = (Nw w - m) + m from by omega, Nat.pow_add]
    exact Nat.mul_lt_mul_of_pos_right h (Nat.two_pow_pos m)
  rw [aDo_lsh w (lt64 hA) hm6, lw_of hA, lwN w hm, Nat.mod_eq_of_lt s1, aDo_rsh w (lt64 s1) hm6, lw_of s1, lwN w hm, Nat.mul_div_cancel _ (Nat.two_pow_pos m)]
end

theorem ne_of {x y : Int} {b : Bool} (h : x = y) (hb : b = true) : (bif (x != y) then false else b) = true := by
  rw [h, bne_self_eq_false, hb]; rfl

theorem shifts (w : Bool) {A m n : Nat} (hA : A < Mw w) (hm : m < Nw w) (hn : m + n < Nw w) {t1 t2 : Int} (e1 : t1 = ((m + n : Nat) : Int)) (e2 : t2 = ((Nw w - m - 1 : Nat) : Int)) :
    (bif (((F_aDo 96 w (F_aDo 96 w A m).1 n).1 : Int) != (F_aDo 96 w A t1).1) then false
   else (bif (((F_aDo 96 w A ((Nw w : Nat) : Int)).1 : Int) != A) then false
    else (bif (((F_aDo 112 w (F_aDo 112 w A m).1 n).1 : Int) != (F_aDo 112 w A t1).1) then false
     else (bif (((F_aDo 112 w A ((Nw w : Nat) : Int)).1 : Int) != A) then false
      else (bif (((F_aDo 192 w (F_aDo 192 w A m).1 n).1 : Int) != (F_aDo 192 w A t1).1) then false
       else (bif (((F_aDo 192 w A ((Nw w : Nat) : Int)).1 : Int) != A) then false
        else (bif F_shown then (bif (((shrI .u64 (shrI .u64 A t2) 1) : Int) != 0) then (decide (((F_aDo 160 w A (F_aDo 96 w (F_aDo 112 w A m).1 m).1).1 : Int) < (shlI .u64 1 m)))
          else (bif (((F_aDo 112 w (F_aDo 96 w A m).1 m).1 : Int) == A) then (decide (((F_aDo 160 w A (F_aDo 96 w (F_aDo 112 w A m).1 m).1).1 : Int) < (shlI .u64 1 m)))
           else false))
         else false))))))) = true := by
  have hN := Nw_le w
  have p : 0 < 2 ^ m := Nat.two_pow_pos m
  have hlast : (decide (((F_aDo 160 w A (F_aDo 96 w (F_aDo 112 w A m).1 m).1).1 : Int) < (shlI .u64 1 m))) = true := by
    have h1 := shl64 (A := 1) (k := m) (by omega)
    have h2 : 2 ^ m < 18446744073709551616 := Nat.pow_lt_pow_right (by decide) (show m < 64 by omega)
    rw [Nat.one_mul, Nat.mod_eq_of_lt h2, show ((1 : Nat) : Int) = 1 from rfl] at h1
    rw [s_left w hA hm, h1]
    have := Nat.mod_lt A p
    exact decide_eq_true (by omega)
  rw [e1, e2, hlast, shown_true, cond_true]
  refine ne_of (s_lsh w hA hm hn) (ne_of (s_lsh0 w hA) (ne_of (s_rsh w hA hm hn) (ne_of (s_rsh0 w hA) (ne_of (s_arsh w hA hm hn) (ne_of (s_arsh0 w hA) ?_)))))
  rw [shr64 (by omega), show (1 : Int) = ((1 : Nat) : Int) from rfl, shr64 (by decide), Nat.div_div_eq_div_mul, ← Nat.pow_add, show Nw w - m - 1 + 1 = Nw w - m from by omega]
  by_cases h : A < 2 ^ (Nw w - m)
  · rw [Nat.div_eq_of_lt h, s_back w hA hm h]
    simp
  · have : A / 2 ^ (Nw w - m) ≠ 0 := by
      have := Nat.div_pos (Nat.le_of_not_lt h) (Nat.two_pow_pos (Nw w - m)); omega
    rw [show (((A / 2 ^ (Nw w - m) : Nat) : Int) != 0) = true from bne_iff_ne.2 (by omega)]
    rfl

theorem AluShifts_true (a0 : Bool) (a1 a2 a3 : Int) (w1 : (Lit.int .u64 a1).wf = true) (w2 : (Lit.int .u64 a2).wf = true) (w3 : (Lit.int .u64 a3).wf = true) : F_AluShifts a0 a1 a2 a3 = true := by
  obtain ⟨A, rfl, hA⟩ := nat64 w1
  obtain ⟨B, rfl, hB⟩ := nat64 w2
  obtain ⟨C, rfl, hC⟩ := nat64 w3
  unfold F_AluShifts
  cases a0
  · rw [cond_false, and_m32 A hA]
    have hm : B % 32 < 32 := Nat.mod_lt _ (by decide)
    have hn := Nat.mod_lt C (show 0 < 32 - B % 32 by omega)
    have e0 : Int.tmod (B : Int) 32 = ((B % 32 : Nat) : Int) := tmod_nat B 32
    rw [e0]
    generalize B % 32 = m at *
    have e3 : IntKind.u64.wrap ((32 : Int) - (m : Int)) = ((32 - m : Nat) : Int) := by rw [wrap_u64]; omega
    rw [e3, tmod_nat]
    generalize C % (32 - m) = n at *
    exact shifts false (Nat.mod_lt _ (by decide)) (show m < Nw false from hm) (show m + n < 32 by omega) (by rw [wrap_u64]; omega) (by rw [wrap_u64, show Nw false = 32 from rfl]; omega)
  · rw [cond_true]
    have hm : B % 64 < 64 := Nat.mod_lt _ (by decide)
    have hn := Nat.mod_lt C (show 0 < 64 - B % 64 by omega)
    have e0 : Int.tmod (B : Int) 64 = ((B % 64 : Nat) : Int) := tmod_nat B 64
    rw [e0]
    generalize B % 64 = m at *
    have e3 : IntKind.u64.wrap ((64 : Int) - (m : Int)) = ((64 - m : Nat) : Int) := by rw [wrap_u64]; omega
    rw [e3, tmod_nat]
    generalize C % (64 - m) = n at *
    exact shifts true hA (show m < Nw true from hm) (show m + n < 64 by omega) (by rw [wrap_u64]; omega) (by rw [wrap_u64, show Nw true = 64 from rfl]; omega)
end Dd
