/- The plain laws AluBack, AluLow, AluBits. -/
import Derived.Test.YtbahecbimpiicaaAP3
namespace Dd
open Go Go.RowKit
set_option linter.unusedVariables false
set_option linter.unusedSimpArgs false

theorem lw_of {w : Bool} {A : Nat} (h : A < Mw w) : lw w A = A := by
  cases w
  · exact Nat.mod_eq_of_lt h
  · rfl
theorem Mw_pos (w : Bool) : 0 < Mw w := by cases w <;> decide
theorem lt64 {w : Bool} {A : Nat} (h : A < Mw w) : A < 18446744073709551616 := Nat.lt_of_lt_of_le h (Mw_le w)
theorem Mw_or (w : Bool) : Mw w = 18446744073709551616 ∨ Mw w = 4294967296 := by
  cases w
  · exact .inr rfl
  · exact .inl rfl
theorem or_ltM (w : Bool) {A B : Nat} (hA : A < Mw w) (hB : B < Mw w) : A ||| B < Mw w := by
  rw [Mw_eq] at *; exact Nat.or_lt_two_pow hA hB
theorem xor_ltM (w : Bool) {A B : Nat} (hA : A < Mw w) (hB : B < Mw w) : A ^^^ B < Mw w := by
  rw [Mw_eq] at *; exact Nat.xor_lt_two_pow hA hB
theorem true_of {b x : Bool} (h1 : b = true) (h2 : x = true) : (bif b then x else false) = true := by rw [h1, h2]; rfl
theorem eq_of_nat {x : Int} {A B : Nat} (h : x = (A : Int)) (e : A = B) : (x == (B : Int)) = true := by rw [h, e]; simp

theorem back (w : Bool) {A B : Nat} (hA : A < Mw w) (hB : B < 18446744073709551616) :
    (bif F_shown then (bif (((F_aDo 16 w (F_aDo 0 w A B).1 B).1 : Int) == A) then (bif (((F_aDo 160 w (F_aDo 160 w A B).1 B).1 : Int) == A) then (bif (((F_aDo 0 w (F_aDo 32 w (F_aDo 48 w A B).1 B).1 (F_aDo 144 w A B).1).1 : Int) == A)
      then (bif (((F_aDo 128 w (F_aDo 128 w A 0).1 0).1 : Int) == A) then (((F_aDo 176 w B A).1 : Int) == A) else false) else false) else false) else false) else false) = true := by
  have hA6 := lt64 hA
  have hY := lw_lt w hB
  have hM := Mw_or w
  have p := Mw_pos w
  generalize hYe : lw w B = Y at hY
  have l := @lw_of w
  refine true_of shown_true (true_of ?_ (true_of ?_ (true_of ?_ (true_of ?_ ?_))))
  · have s1 : (A + Y) % Mw w < Mw w := Nat.mod_lt _ p
    rw [aDo_add w hA6 hB, hYe, l hA, aDo_sub w (lt64 s1) hB, hYe, l s1]
    refine eq_of_nat rfl ?_
    clear l
    generalize Mw w = M at *
    rcases hM with rfl | rfl <;> omega
  · have s1 : A ^^^ Y < Mw w := xor_ltM w hA hY
    rw [aDo_xor w hA6 hB, hYe, l hA, aDo_xor w (lt64 s1) hB, hYe, l s1]
    exact eq_of_nat rfl (by rw [Nat.xor_assoc, Nat.xor_self, Nat.xor_zero])
  · rw [aDo_div w hA6 hB, aDo_mod w hA6 hB, hYe, l hA]
    by_cases h0 : Y = 0
    · rw [if_pos h0, if_pos h0]
      rw [aDo_mul w (A := 0) (by decide) hB, hYe, l p, Nat.zero_mul, Nat.zero_mod, aDo_add w (A := 0) (by decide) hA6, l p, l hA, Nat.zero_add, Nat.mod_eq_of_lt hA]
      exact eq_of_nat rfl rfl
    · rw [if_neg h0, if_neg h0]
      have s1 : A / Y < Mw w := Nat.lt_of_le_of_lt (Nat.div_le_self _ _) hA
      have s2 : A % Y < Mw w := Nat.lt_of_le_of_lt (Nat.mod_le _ _) hA
      have s3 : A / Y * Y < Mw w := Nat.lt_of_le_of_lt (Nat.div_mul_le_self _ _) hA
      rw [aDo_mul w (lt64 s1) hB, hYe, l s1, Nat.mod_eq_of_lt s3, aDo_add w (lt64 s3) (lt64 s2), l s3, l s2]
      refine eq_of_nat rfl ?_
      rw [Nat.mul_comm, Nat.div_add_mod, Nat.mod_eq_of_lt hA]
  · have s1 : (Mw w - A) % Mw w < Mw w := Nat.mod_lt _ p
    have h0 : (0 : Int) = ((0 : Nat) : Int) := rfl
    rw [h0, aDo_neg w hA6 (by decide), l hA, aDo_neg w (lt64 s1) (by decide), l s1]
    refine eq_of_nat rfl ?_
    clear l
    generalize Mw w = M at *
    rcases hM with rfl | rfl <;> omega
  · rw [aDo_mov w hB hA6, l hA]
    exact eq_of_nat rfl rfl

theorem AluBack_true (a0 : Bool) (a1 a2 : Int) (w1 : (Lit.int .u64 a1).wf = true) (w2 : (Lit.int .u64 a2).wf = true) : F_AluBack a0 a1 a2 = true := by
  obtain ⟨A, rfl, hA⟩ := nat64 w1
  obtain ⟨B, rfl, hB⟩ := nat64 w2
  unfold F_AluBack
  cases a0
  · rw [Bool.not_false, cond_true, and_m32 A hA]
    exact back false (Nat.mod_lt _ (by decide)) hB
  · rw [Bool.not_true, cond_false]
    exact back true hA hB

/-! Try# the lowest 32 bits -/
theorem do32_lt (op : Int) {A B : Nat} (hA : A < 4294967296) (hB : B < 4294967296) : 0 ≤ (F_do32 op 32 (A : Int) (B : Int)).1 ∧ (F_do32 op 32 (A : Int) (B : Int)).1 < 4294967296 := by
  have cnd : ∀ {c : Bool} {x y : Int × Bool}, (0 ≤ x.1 ∧ x.1 < 4294967296) → (0 ≤ y.1 ∧ y.1 < 4294967296) → (0 ≤ (bif c then x else y).1 ∧ (bif c then x else y).1 < 4294967296) := fun {c x y} h1 h2 => by cases c <;> assumption
  have w : ∀ n : Int, 0 ≤ IntKind.u32.wrap n ∧ IntKind.u32.wrap n < 4294967296 := fun n => ⟨wrap32_nn n, wrap32_lt n⟩
  have n : ∀ N : Nat, N < 4294967296 → 0 ≤ (N : Int) ∧ (N : Int) < 4294967296 := fun N h => by omega
  unfold F_do32
  rw [or32 hA hB, and32 hA hB, xor32 hA hB, tmod_nat A B, w64 B, show (32 : Int) = ((32 : Nat) : Int) from rfl, tmod_nat, shr32 (by omega)]
  refine cnd (w _) (cnd (w _) (cnd (w _) (cnd (cnd (n 0 (by decide)) (w _)) (cnd (cnd (n _ hA) (n _ (Nat.lt_of_le_of_lt (Nat.mod_le _ _) hA))) (cnd (n _ (or_lt32 hA hB)) (cnd (n _ (and_lt _ _ _ hA)) (cnd (n _ (xor_lt32 hA hB))
    (cnd (w _) (cnd (n _ (Nat.lt_of_le_of_lt (Nat.div_le_self _ _) hA)) (cnd (w _) (cnd (w _) (cnd (n _ hB) (n 0 (by decide))))))))))))))

theorem low_or {A C : Nat} (hA : A < 18446744073709551616) : ∃ X : Nat, orI .u64 (andI .u64 (A : Int) 4294967295) (shlI .u64 (C : Int) 32) = (X : Int) ∧ IntKind.u32.wrap (X : Int) = IntKind.u32.wrap (A : Int) := by
  rw [and_m32 A hA, show (32 : Int) = ((32 : Nat) : Int) from rfl, shl64 (by decide), or64 (by omega) (Nat.mod_lt _ (by decide))]
  refine ⟨_, rfl, ?_⟩
  rw [w32, w32]
  congr 1
  have e := Nat.or_mod_two_pow (a := A % 4294967296) (b := C * 2 ^ 32 % 18446744073709551616) (n := 32)
  rw [show (2 : Nat) ^ 32 = 4294967296 from rfl] at e ⊢
  rw [e]
  have e2 : C * 4294967296 % 18446744073709551616 % 4294967296 = 0 := by omega
  rw [e2, Nat.or_zero]; omega

theorem AluLow_true (a0 a1 a2 a3 a4 : Int) (w0 : (Lit.int .u8 a0).wf = true) (w1 : (Lit.int .u64 a1).wf = true) (w2 : (Lit.int .u64 a2).wf = true) (w3 : (Lit.int .u64 a3).wf = true) (w4 : (Lit.int .u64 a4).wf = true) : F_AluLow a0 a1 a2 a3 a4 = true := by
  obtain ⟨A, rfl, hA⟩ := nat64 w1
  obtain ⟨B, rfl, hB⟩ := nat64 w2
  obtain ⟨C, rfl, hC⟩ := nat64 w3
  obtain ⟨D, rfl, hD⟩ := nat64 w4
  obtain ⟨X, e1, x1⟩ := low_or (A := A) (C := C) hA
  obtain ⟨Y, e2, x2⟩ := low_or (A := B) (C := D) hB
  unfold F_AluLow
  rw [e1, e2]
  have d : F_aDo a0 false (X : Int) (Y : Int) = F_aDo a0 false (A : Int) (B : Int) := by unfold F_aDo; rw [cond_false, cond_false, x1, x2]
  have t : F_aTest a0 false (X : Int) (Y : Int) = F_aTest a0 false (A : Int) (B : Int) := by unfold F_aTest; rw [cond_false, cond_false, x1, x2]
  rw [d, t, shown_true]
  have hA2 : A % 4294967296 < 4294967296 := Nat.mod_lt _ (by decide)
  have hB2 : B % 4294967296 < 4294967296 := Nat.mod_lt _ (by decide)
  have hr : ∃ R : Nat, (F_aDo a0 false (A : Int) (B : Int)).1 = (R : Int) ∧ R < 4294967296 := by
    have h := do32_lt a0 hA2 hB2
    have e : (F_aDo a0 false (A : Int) (B : Int)).1 = IntKind.u64.wrap (F_do32 a0 32 ((A % 4294967296 : Nat) : Int) ((B % 4294967296 : Nat) : Int)).1 := by
      unfold F_aDo; rw [cond_false, w32, w32]
    rw [e]
    generalize (F_do32 a0 32 ((A % 4294967296 : Nat) : Int) ((B % 4294967296 : Nat) : Int)).1 = z at h
    refine ⟨z.toNat, ?_, by omega⟩
    rw [wrap_u64]; omega
  obtain ⟨R, er, hR⟩ := hr
  have sh : (shrI .u64 (F_aDo a0 false (A : Int) (B : Int)).1 32 == 0) = true := by
    rw [er, show (32 : Int) = ((32 : Nat) : Int) from rfl, shr64 (by decide), Nat.div_eq_of_lt hR]; rfl
  rw [sh]
  simp

theorem AluBits_true (a0 : Bool) (a1 a2 : Int) (w1 : (Lit.int .u64 a1).wf = true) (w2 : (Lit.int .u64 a2).wf = true) : F_AluBits a0 a1 a2 = true := by
  obtain ⟨A, rfl, hA⟩ := nat64 w1
  obtain ⟨B, rfl, hB⟩ := nat64 w2
  have hX := lw_lt a0 hA
  have hY := lw_lt a0 hB
  have hM := Mw_or a0
  have p := Mw_pos a0
  have l := @lw_of a0
  have xa := xor_eq (lw a0 A) (lw a0 B)
  have oa := or_eq (lw a0 A) (lw a0 B)
  have i2 := aDo_and a0 hA hB
  have i1 := aDo_or a0 hA hB
  have i3 := aDo_xor a0 hA hB
  have i4 := aDo_add a0 hA hB
  have i5 : F_aDo 128 a0 (B : Int) 0 = _ := aDo_neg a0 hB (B := 0) (by decide)
  have i6 := aDo_sub a0 hA hB
  have t := aTest_eval a0 64 hA hB
  generalize hx : lw a0 A = X at *
  generalize hy : lw a0 B = Y at *
  have s1 : X ||| Y < Mw a0 := or_ltM a0 hX hY
  have s2 : X &&& Y < Mw a0 := and_lt _ _ _ hX
  have s3 : X ^^^ Y < Mw a0 := xor_ltM a0 hX hY
  have s5 : (Mw a0 - Y) % Mw a0 < Mw a0 := Nat.mod_lt _ p
  have h0 : (0 : Int) = ((0 : Nat) : Int) := rfl
  unfold F_AluBits
  refine true_of shown_true (true_of ?_ (true_of ?_ (true_of ?_ ?_)))
  · rw [i2, i1, i4, aDo_add a0 (lt64 s2) (lt64 s1), l s1, l s2]
    refine eq_of_nat rfl ?_
    congr 1; omega
  · rw [i2, i3, i1, aDo_add a0 (lt64 s2) (lt64 s3), l s3, l s2]
    refine eq_of_nat rfl ?_
    rw [Nat.mod_eq_of_lt (by omega)]; omega
  · rw [i6, i5, aDo_add a0 hA (lt64 s5), l s5, hx]
    refine eq_of_nat rfl ?_
    clear l i1 i2 i3 i4 i5 i6 t
    generalize Mw a0 = M at *
    rcases hM with rfl | rfl <;> omega
  · rw [i2, t]
    show ((X &&& Y != 0) == (((X &&& Y : Nat) : Int) != 0)) = true
    rw [show (((X &&& Y : Nat) : Int) != 0) = (X &&& Y != 0) from c2_eq (X &&& Y) 0]
    simp

end Dd
