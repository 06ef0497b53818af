/- The plain laws of alu, but AluDoes. -/
import Derived.Test.YtbahecbimpiicaaA6
import Derived.Test.YtbahecbimpiicaaAP2
namespace Dd
open Go Go.RowKit
set_option linter.unusedVariables false
set_option linter.unusedSimpArgs false

theorem shown_true : F_shown = true := by kernel_rfl
theorem nat64 {a : Int} (w : (Lit.int .u64 a).wf = true) : ∃ A : Nat, a = (A : Int) ∧ A < 18446744073709551616 := by
  simp only [Lit.wf, Bool.and_eq_true, decide_eq_true_eq] at w
  have h : IntKind.u64.min = 0 ∧ IntKind.u64.max = 18446744073709551615 := ⟨rfl, rfl⟩
  rw [h.1, h.2] at w
  exact ⟨a.toNat, by omega, by omega⟩

theorem c1_eq (x y : Nat) : ((x : Int) == (y : Int)) = (x == y) := Bool.eq_iff_iff.2 (by rw [beq_iff_eq, beq_iff_eq]; omega)
theorem c2_eq (x y : Nat) : ((x : Int) != (y : Int)) = (x != y) := by simp only [bne, c1_eq]
theorem decide_gt (x y : Nat) : decide ((x : Int) > (y : Int)) = decide (x > y) := decide_eq_decide.2 (by omega)
theorem decide_ge (x y : Nat) : decide ((x : Int) ≥ (y : Int)) = decide (x ≥ y) := decide_eq_decide.2 (by omega)
theorem decide_lt' (x y : Nat) : decide ((x : Int) < (y : Int)) = decide (x < y) := decide_eq_decide.2 (by omega)
theorem decide_le' (x y : Nat) : decide ((x : Int) ≤ (y : Int)) = decide (x ≤ y) := decide_eq_decide.2 (by omega)

/-! Try# the document's tests -/
theorem rLow_nat (A : Nat) : F_rLow (A : Int) = ((A % 4294967296 : Nat) : Int) := tmod_nat A 4294967296
theorem xor_t64 {A : Nat} (h : A < 18446744073709551616) : A ^^^ 9223372036854775808 = (A + 9223372036854775808) % 18446744073709551616 := by
  have e := xor_top 63 A h
  rw [show (2 : Nat) ^ 63 = 9223372036854775808 from rfl, show (2 : Nat) ^ (63 + 1) = 18446744073709551616 from rfl] at e
  exact e
theorem xor_t32 {A : Nat} (h : A < 4294967296) : A ^^^ 2147483648 = (A + 2147483648) % 4294967296 := by
  have e := xor_top 31 A h
  rw [show (2 : Nat) ^ 31 = 2147483648 from rfl, show (2 : Nat) ^ (31 + 1) = 4294967296 from rfl] at e
  exact e
theorem Signed64 {A : Nat} (h : A < 18446744073709551616) : F_Signed (A : Int) 64 = (((A + 9223372036854775808) % 18446744073709551616 : Nat) : Int) := by
  have e : shlI .u64 1 (IntKind.u64.wrap ((64 : Int) - 1)) = ((9223372036854775808 : Nat) : Int) := by decide
  unfold F_Signed
  rw [e, xor64 h (by decide), xor_t64 h]
theorem Signed32 {A : Nat} (h : A < 4294967296) : F_Signed (A : Int) 32 = (((A + 2147483648) % 4294967296 : Nat) : Int) := by
  have e : shlI .u64 1 (IntKind.u64.wrap ((32 : Int) - 1)) = ((2147483648 : Nat) : Int) := by decide
  unfold F_Signed
  rw [e, xor64 (by omega) (by decide), xor_t32 h]
theorem sg64 (A : Nat) : sg true A = (((A + 9223372036854775808) % 18446744073709551616 : Nat) : Int) - 9223372036854775808 := by rw [sg_true]; omega
theorem sg32 (A : Nat) : sg false A = (((A + 2147483648) % 4294967296 : Nat) : Int) - 2147483648 := by rw [sg_false]; omega

theorem rTest_eq (w : Bool) (op : Int) {A B : Nat} (hA : A < 18446744073709551616) (hB : B < 18446744073709551616) : F_rTest op w (A : Int) (B : Int) = F_aTest op w (A : Int) (B : Int) := by
  rw [aTest_eval w op hA hB]
  have p : ∀ {b c : Bool}, b = c → (b, true) = (c, true) := fun h => by rw [h]
  unfold F_rTest
  cases w
  · have hA2 : A % 4294967296 < 4294967296 := Nat.mod_lt _ (by decide)
    have hB2 : B % 4294967296 < 4294967296 := Nat.mod_lt _ (by decide)
    have e2 : ∀ X, lw false X = X % 4294967296 := fun _ => rfl
    rw [Bool.not_false, cond_true, rLow_nat, rLow_nat, Signed32 hA2, Signed32 hB2, and64 (by omega) (by omega), e2, e2, sg32, sg32]
    exact cc (p (c1_eq _ _)) (cc (p (c2_eq _ _)) (cc (p (decide_gt _ _)) (cc (p (decide_ge _ _)) (cc (p (decide_lt' _ _)) (cc (p (decide_le' _ _)) (cc (p (c2_eq _ 0))
      (cc (p (decide_eq_decide.2 (by omega))) (cc (p (decide_eq_decide.2 (by omega))) (cc (p (decide_eq_decide.2 (by omega))) (cc (p (decide_eq_decide.2 (by omega))) rfl))))))))))
  · have e2 : ∀ X, lw true X = X := fun _ => rfl
    rw [Bool.not_true, cond_false, Signed64 hA, Signed64 hB, and64 hA hB, e2, e2, sg64, sg64]
    exact cc (p (c1_eq _ _)) (cc (p (c2_eq _ _)) (cc (p (decide_gt _ _)) (cc (p (decide_ge _ _)) (cc (p (decide_lt' _ _)) (cc (p (decide_le' _ _)) (cc (p (c2_eq _ 0))
      (cc (p (decide_eq_decide.2 (by omega))) (cc (p (decide_eq_decide.2 (by omega))) (cc (p (decide_eq_decide.2 (by omega))) (cc (p (decide_eq_decide.2 (by omega))) rfl))))))))))

theorem inTests (op : Int) : F_In F_Tests.1 F_Tests.2 op = (bif (16 : Int) == op then true else bif (32 : Int) == op then true else bif (48 : Int) == op then true else bif (64 : Int) == op then true else bif (80 : Int) == op then true else bif (96 : Int) == op then true
    else bif (112 : Int) == op then true else bif (160 : Int) == op then true else bif (176 : Int) == op then true else bif (192 : Int) == op then true else bif (208 : Int) == op then true else false) := by kernel_rfl
theorem sameTests : F_same F_Tests.1 F_Tests.2 F_rTests.1 F_rTests.2 = true := by kernel_rfl

theorem aTest_snd (w : Bool) (op : Int) {A B : Nat} (hA : A < 18446744073709551616) (hB : B < 18446744073709551616) : (F_aTest op w (A : Int) (B : Int)).2 = F_In F_Tests.1 F_Tests.2 op := by
  rw [aTest_eval w op hA hB, inTests]
  by_cases h : op = 16; · subst h; rfl
  by_cases h1 : op = 32; · subst h1; rfl
  by_cases h2 : op = 48; · subst h2; rfl
  by_cases h3 : op = 64; · subst h3; rfl
  by_cases h4 : op = 80; · subst h4; rfl
  by_cases h5 : op = 96; · subst h5; rfl
  by_cases h6 : op = 112; · subst h6; rfl
  by_cases h7 : op = 160; · subst h7; rfl
  by_cases h8 : op = 176; · subst h8; rfl
  by_cases h9 : op = 192; · subst h9; rfl
  by_cases h10 : op = 208; · subst h10; rfl
  have n : ∀ k : Int, op ≠ k → (op == k) = false ∧ (k == op) = false := fun k hk => ⟨beq_eq_false_iff_ne.2 hk, beq_eq_false_iff_ne.2 (fun e => hk e.symm)⟩
  simp only [(n 16 h).1, (n 16 h).2, (n 32 h1).1, (n 32 h1).2, (n 48 h2).1, (n 48 h2).2, (n 64 h3).1, (n 64 h3).2, (n 80 h4).1, (n 80 h4).2, (n 96 h5).1, (n 96 h5).2, (n 112 h6).1, (n 112 h6).2, (n 160 h7).1, (n 160 h7).2, (n 176 h8).1, (n 176 h8).2, (n 192 h9).1, (n 192 h9).2, (n 208 h10).1, (n 208 h10).2, cond_false]

theorem AluTests_true (a0 : Int) (a1 : Bool) (a2 a3 : Int) (w0 : (Lit.int .u8 a0).wf = true) (w2 : (Lit.int .u64 a2).wf = true) (w3 : (Lit.int .u64 a3).wf = true) : F_AluTests a0 a1 a2 a3 = true := by
  obtain ⟨A, rfl, hA⟩ := nat64 w2
  obtain ⟨B, rfl, hB⟩ := nat64 w3
  unfold F_AluTests
  rw [shown_true, rTest_eq a1 a0 hA hB, aTest_snd a1 a0 hA hB, sameTests]
  simp only [beq_self_eq_true, cond_true]

theorem AluTurned_true (a0 : Bool) (a1 a2 : Int) (w1 : (Lit.int .u64 a1).wf = true) (w2 : (Lit.int .u64 a2).wf = true) : F_AluTurned a0 a1 a2 = true := by
  obtain ⟨A, rfl, hA⟩ := nat64 w1
  obtain ⟨B, rfl, hB⟩ := nat64 w2
  have t : ∀ op, F_aTest op a0 (A : Int) (B : Int) = _ := fun op => aTest_eval a0 op hA hB
  have u : ∀ op, F_aTest op a0 (B : Int) (A : Int) = _ := fun op => aTest_eval a0 op hB hA
  unfold F_AluTurned
  simp only [t, u, shown_true]
  have x1 : ∀ {b c : Bool} {x y : Bool}, b = c → x = y → (bif b then false else x) = (bif c then false else y) := fun h1 h2 => by rw [h1, h2]
  have nt : ∀ {b : Bool} {x : Bool}, b = false → x = true → (bif b then false else x) = true := fun h1 h2 => by rw [h1, h2]; rfl
  have ne : ∀ {p q : Bool}, p = !q → (p == q) = false := fun h => by rw [h]; cases ‹Bool› <;> rfl
  have eq : ∀ {p q : Bool}, p = q → (!(p == q)) = false := fun h => by rw [h]; simp
  have cm : (lw a0 A &&& lw a0 B) = (lw a0 B &&& lw a0 A) := Nat.and_comm _ _
  refine nt (ne ?_) (nt (ne ?_) (nt (ne ?_) (nt (ne ?_) (nt (ne ?_) (nt (eq ?_) (nt (eq ?_) (nt (eq ?_) (nt (eq ?_) (nt (eq ?_) (nt (eq ?_) rfl))))))))))
  · show (lw a0 A == lw a0 B) = !(lw a0 A != lw a0 B); simp [bne]
  · show decide (lw a0 A > lw a0 B) = !(decide (lw a0 A ≤ lw a0 B)); rw [← decide_not]; exact decide_eq_decide.2 (by omega)
  · show decide (lw a0 A ≥ lw a0 B) = !(decide (lw a0 A < lw a0 B)); rw [← decide_not]; exact decide_eq_decide.2 (by omega)
  · show decide (sg a0 (lw a0 A) > sg a0 (lw a0 B)) = !(decide (sg a0 (lw a0 A) ≤ sg a0 (lw a0 B))); rw [← decide_not]; exact decide_eq_decide.2 (by omega)
  · show decide (sg a0 (lw a0 A) ≥ sg a0 (lw a0 B)) = !(decide (sg a0 (lw a0 A) < sg a0 (lw a0 B))); rw [← decide_not]; exact decide_eq_decide.2 (by omega)
  · show (lw a0 A == lw a0 B) = (lw a0 B == lw a0 A); rw [Bool.eq_iff_iff, beq_iff_eq, beq_iff_eq]; omega
  · show decide (lw a0 A > lw a0 B) = decide (lw a0 B < lw a0 A); rfl
  · show decide (lw a0 A ≥ lw a0 B) = decide (lw a0 B ≤ lw a0 A); rfl
  · show decide (sg a0 (lw a0 A) > sg a0 (lw a0 B)) = decide (sg a0 (lw a0 B) < sg a0 (lw a0 A)); rfl
  · show decide (sg a0 (lw a0 A) ≥ sg a0 (lw a0 B)) = decide (sg a0 (lw a0 B) ≤ sg a0 (lw a0 A)); rfl
  · show ((lw a0 A &&& lw a0 B) != 0) = ((lw a0 B &&& lw a0 A) != 0); rw [cm]

theorem xor_m64 {A : Nat} (h : A < 18446744073709551616) : xorI .u64 (A : Int) 9223372036854775808 = (((A + 9223372036854775808) % 18446744073709551616 : Nat) : Int) := by
  have := xor64 (B := 9223372036854775808) h (by decide)
  rw [show ((9223372036854775808 : Nat) : Int) = 9223372036854775808 from rfl] at this
  rw [this, xor_t64 h]
theorem xor_m31 {A : Nat} (h : A < 18446744073709551616) : ∃ X : Nat, xorI .u64 (A : Int) 2147483648 = (X : Int) ∧ X < 18446744073709551616 ∧ X % 4294967296 = (A % 4294967296 + 2147483648) % 4294967296 := by
  have := xor64 (B := 2147483648) h (by decide)
  rw [show ((2147483648 : Nat) : Int) = 2147483648 from rfl] at this
  refine ⟨_, this, xor_lt64 h (by decide), ?_⟩
  have e := Nat.xor_mod_two_pow (a := A) (b := 2147483648) (n := 32)
  rw [show (2 : Nat) ^ 32 = 4294967296 from rfl] at e
  rw [e, show (2147483648 : Nat) % 4294967296 = 2147483648 from rfl]
  exact xor_t32 (Nat.mod_lt _ (by decide))

theorem AluSigned_true (a0 : Bool) (a1 a2 : Int) (w1 : (Lit.int .u64 a1).wf = true) (w2 : (Lit.int .u64 a2).wf = true) : F_AluSigned a0 a1 a2 = true := by
  obtain ⟨A, rfl, hA⟩ := nat64 w1
  obtain ⟨B, rfl, hB⟩ := nat64 w2
  have t : ∀ op, F_aTest op a0 (A : Int) (B : Int) = _ := fun op => aTest_eval a0 op hA hB
  have nt : ∀ {b : Bool} {x : Bool}, b = false → x = true → (bif b then false else x) = true := fun h1 h2 => by rw [h1, h2]; rfl
  have eq : ∀ {p q : Bool}, p = q → (!(p == q)) = false := fun h => by rw [h]; simp
  have main : ∀ (X Y : Nat), X < 18446744073709551616 → Y < 18446744073709551616 → (sg a0 (lw a0 A) > sg a0 (lw a0 B) ↔ lw a0 X > lw a0 Y) → (sg a0 (lw a0 A) < sg a0 (lw a0 B) ↔ lw a0 X < lw a0 Y) →
      (bif (!((F_aTest 96 a0 A B).1 == (F_aTest 32 a0 X Y).1)) then false else (bif (!((F_aTest 112 a0 A B).1 == (F_aTest 48 a0 X Y).1)) then false
       else (bif (!((F_aTest 192 a0 A B).1 == (F_aTest 160 a0 X Y).1)) then false else (bif (!((F_aTest 208 a0 A B).1 == (F_aTest 176 a0 X Y).1)) then false else F_shown)))) = true := by
    intro X Y hX hY h1 h2
    have u : ∀ op, F_aTest op a0 (X : Int) (Y : Int) = _ := fun op => aTest_eval a0 op hX hY
    rw [t 96, t 112, t 192, t 208, u 32, u 48, u 160, u 176, shown_true]
    refine nt (eq ?_) (nt (eq ?_) (nt (eq ?_) (nt (eq ?_) rfl)))
    · show decide (sg a0 (lw a0 A) > sg a0 (lw a0 B)) = decide (lw a0 X > lw a0 Y); exact decide_eq_decide.2 h1
    · show decide (sg a0 (lw a0 A) ≥ sg a0 (lw a0 B)) = decide (lw a0 X ≥ lw a0 Y); exact decide_eq_decide.2 (by omega)
    · show decide (sg a0 (lw a0 A) < sg a0 (lw a0 B)) = decide (lw a0 X < lw a0 Y); exact decide_eq_decide.2 h2
    · show decide (sg a0 (lw a0 A) ≤ sg a0 (lw a0 B)) = decide (lw a0 X ≤ lw a0 Y); exact decide_eq_decide.2 (by omega)
  unfold F_AluSigned
  cases a0
  · obtain ⟨X, e1, hX, m1⟩ := xor_m31 hA
    obtain ⟨Y, e2, hY, m2⟩ := xor_m31 hB
    have l : ∀ Z, lw false Z = Z % 4294967296 := fun _ => rfl
    rw [cond_false, e1, e2]
    refine main X Y hX hY ?_ ?_
    · rw [l, l, l, l, m1, m2, sg32, sg32]; omega
    · rw [l, l, l, l, m1, m2, sg32, sg32]; omega
  · have l : ∀ Z, lw true Z = Z := fun _ => rfl
    rw [cond_true, xor_m64 hA, xor_m64 hB]
    refine main _ _ (Nat.mod_lt _ (by decide)) (Nat.mod_lt _ (by decide)) ?_ ?_
    · rw [l, l, l, l, sg64, sg64]; omega
    · rw [l, l, l, l, sg64, sg64]; omega

end Dd
