/- What Do comes to, in Nat. -/
import Derived.Test.YtanopmoiegbjdaaSP6
namespace Dd
open Go Go.RowKit
set_option linter.unusedVariables false
set_option linter.unusedSimpArgs false

abbrev nS (l h : Nat) : SSpan := ⟨(l : Int), (h : Int)⟩
theorem sp {x y u v : Int} (h1 : x = u) (h2 : y = v) : (⟨x, y⟩ : SSpan) = ⟨u, v⟩ := by rw [h1, h2]
theorem nS_ok {l h : Nat} (h1 : l ≤ h) (h2 : h < 18446744073709551616) : OkS (nS l h) := ⟨by show (0 : Int) ≤ (l : Int); omega, by show (l : Int) ≤ (h : Int); omega, by show (h : Int) < _; omega⟩
theorem cond_if {α : Type} {c : Bool} {p : Prop} [Decidable p] {x y : α} (h : c = decide p) : (bif c then x else y) = if p then x else y := by
  rw [h]; by_cases hp : p
  · rw [decide_eq_true hp, if_pos hp]; rfl
  · rw [decide_eq_false hp, if_neg hp]; rfl

theorem q_add (N : Nat) (hN : N = 64 ∨ N = 32) {al ah bl bh : Nat} (h1 : al ≤ ah) (h2 : bl ≤ bh) (ha : ah < 18446744073709551616) (hb : bh < 18446744073709551616) : qTail 0 N (nS al ah) (nS bl bh) = if ah + bh < 18446744073709551616 then nS (al + bl) (ah + bh) else F_qAll := by
  show (bif (F_qsum (ah : Int) (bh : Int)).2 then (⟨(F_qsum (al : Int) (bl : Int)).1, (F_qsum (ah : Int) (bh : Int)).1⟩ : SSpan) else F_qAll) = _
  unfold F_qsum
  rw [cond_if (p := ah + bh < 18446744073709551616) (decide_eq_decide.2 (by rw [wrap_u64]; omega))]
  by_cases h : ah + bh < 18446744073709551616
  · rw [if_pos h, if_pos h]; exact sp (by rw [wrap_u64]; omega) (by rw [wrap_u64]; omega)
  · rw [if_neg h, if_neg h]
theorem q_sub (N : Nat) (hN : N = 64 ∨ N = 32) {al ah bl bh : Nat} (h1 : al ≤ ah) (h2 : bl ≤ bh) (ha : ah < 18446744073709551616) (hb : bh < 18446744073709551616) : qTail 16 N (nS al ah) (nS bl bh) = if bh ≤ al then nS (al - bh) (ah - bl) else F_qAll := by
  show (bif decide ((al : Int) ≥ (bh : Int)) then (⟨IntKind.u64.wrap ((al : Int) - (bh : Int)), IntKind.u64.wrap ((ah : Int) - (bl : Int))⟩ : SSpan) else F_qAll) = _
  rw [cond_if (p := bh ≤ al) (decide_eq_decide.2 (by omega))]
  by_cases h : bh ≤ al
  · rw [if_pos h, if_pos h]; exact sp (by rw [wrap_u64]; omega) (by rw [wrap_u64]; omega)
  · rw [if_neg h, if_neg h]
theorem q_mul (N : Nat) (hN : N = 64 ∨ N = 32) {al ah bl bh : Nat} (h1 : al ≤ ah) (h2 : bl ≤ bh) (ha : ah < 18446744073709551616) (hb : bh < 18446744073709551616) : qTail 32 N (nS al ah) (nS bl bh) = if ah * bh < 18446744073709551616 then nS (al * bl) (ah * bh) else F_qAll := by
  rw [← t32 (N : Int) _ _ (nS_ok h1 ha) (nS_ok h2 hb) (by omega)]
  show (bif ((F_Mul64 (ah : Int) (bh : Int)).1 == 0) then (⟨IntKind.u64.wrap ((al : Int) * (bl : Int)), (F_Mul64 (ah : Int) (bh : Int)).2⟩ : SSpan) else F_sAll) = _
  rw [mul_val (by omega) (by omega) (by omega) (by omega), ← Int.natCast_mul, ← Int.natCast_mul, w64, w64]
  have hm : al * bl ≤ ah * bh := Nat.mul_le_mul h1 h2
  rw [cond_if (p := ah * bh < 18446744073709551616) (by
    rw [Bool.eq_iff_iff, beq_iff_eq, decide_eq_true_eq]
    dsimp only
    generalize ah * bh = P at *
    omega)]
  by_cases h : ah * bh < 18446744073709551616
  · rw [if_pos h, if_pos h, Nat.mod_eq_of_lt h, Nat.mod_eq_of_lt (Nat.lt_of_le_of_lt hm h)]
  · rw [if_neg h, if_neg h]; rfl
theorem q_div (N : Nat) (hN : N = 64 ∨ N = 32) {al ah bl bh : Nat} (h1 : al ≤ ah) (h2 : bl ≤ bh) (ha : ah < 18446744073709551616) (hb : bh < 18446744073709551616) : qTail 48 N (nS al ah) (nS bl bh) = if 0 < bl then nS (al / bh) (ah / bl) else nS 0 ah := by
  show (bif decide ((bl : Int) > 0) then (⟨IntKind.u64.wrap (Int.tdiv (al : Int) (bh : Int)), IntKind.u64.wrap (Int.tdiv (ah : Int) (bl : Int))⟩ : SSpan) else ⟨0, (ah : Int)⟩) = _
  rw [cond_if (p := 0 < bl) (decide_eq_decide.2 (by omega)), tdiv_nat, tdiv_nat, w64, w64, Nat.mod_eq_of_lt (Nat.lt_of_le_of_lt (Nat.div_le_self _ _) (by omega)), Nat.mod_eq_of_lt (Nat.lt_of_le_of_lt (Nat.div_le_self _ _) (by omega))]
  rfl
theorem q_mod (N : Nat) (hN : N = 64 ∨ N = 32) {al ah bl bh : Nat} (h1 : al ≤ ah) (h2 : bl ≤ bh) (ha : ah < 18446744073709551616) (hb : bh < 18446744073709551616) : qTail 144 N (nS al ah) (nS bl bh) = if ah < bl then nS al ah else if 0 < bl then nS 0 (min ah (bh - 1)) else nS 0 ah := by
  show (bif decide ((bl : Int) > (ah : Int)) then nS al ah else bif decide ((bl : Int) > 0) then (⟨0, mnI (ah : Int) (IntKind.u64.wrap ((bh : Int) - 1))⟩ : SSpan) else ⟨0, (ah : Int)⟩) = _
  rw [cond_if (p := ah < bl) (decide_eq_decide.2 (by omega)), cond_if (p := 0 < bl) (decide_eq_decide.2 (by omega))]
  by_cases h : 0 < bl
  · have e : mnI (ah : Int) (IntKind.u64.wrap ((bh : Int) - 1)) = ((min ah (bh - 1) : Nat) : Int) := by rw [mn_eq, wrap_u64]; omega
    rw [e]; rfl
  · rw [if_neg h, if_neg h]; rfl
theorem q_and (N : Nat) (hN : N = 64 ∨ N = 32) {al ah bl bh : Nat} (h1 : al ≤ ah) (h2 : bl ≤ bh) (ha : ah < 18446744073709551616) (hb : bh < 18446744073709551616) : qTail 80 N (nS al ah) (nS bl bh) = nS 0 (min ah bh) := by
  show (⟨0, mnI (ah : Int) (bh : Int)⟩ : SSpan) = _
  exact sp rfl (by rw [mn_eq]; omega)
theorem q_ones (N : Nat) (hN : N = 64 ∨ N = 32) {al ah bl bh : Nat} (h1 : al ≤ ah) (h2 : bl ≤ bh) (ha : ah < 18446744073709551616) (hb : bh < 18446744073709551616) : F_qOnes (mxI (ah : Int) (bh : Int)) = ((2 ^ Lib.bitLen (max ah bh) - 1 : Nat) : Int) := by
  have e : mxI (ah : Int) (bh : Int) = ((max ah bh : Nat) : Int) := by rw [mx_eq]; omega
  rw [e, ← ones_eq (by omega) (by omega), ones_val _ (by omega)]
theorem q_or (N : Nat) (hN : N = 64 ∨ N = 32) {al ah bl bh : Nat} (h1 : al ≤ ah) (h2 : bl ≤ bh) (ha : ah < 18446744073709551616) (hb : bh < 18446744073709551616) : qTail 64 N (nS al ah) (nS bl bh) = nS (max al bl) (2 ^ Lib.bitLen (max ah bh) - 1) := by
  show (⟨mxI (al : Int) (bl : Int), F_qOnes (mxI (ah : Int) (bh : Int))⟩ : SSpan) = _
  exact sp (by rw [mx_eq]; omega) (q_ones N hN h1 h2 ha hb)
theorem q_xor (N : Nat) (hN : N = 64 ∨ N = 32) {al ah bl bh : Nat} (h1 : al ≤ ah) (h2 : bl ≤ bh) (ha : ah < 18446744073709551616) (hb : bh < 18446744073709551616) : qTail 160 N (nS al ah) (nS bl bh) = nS 0 (2 ^ Lib.bitLen (max ah bh) - 1) := by
  show (⟨0, F_qOnes (mxI (ah : Int) (bh : Int))⟩ : SSpan) = _
  exact sp rfl (q_ones N hN h1 h2 ha hb)
theorem q_lsh (N : Nat) (hN : N = 64 ∨ N = 32) {al ah bl bh : Nat} (h1 : al ≤ ah) (h2 : bl ≤ bh) (ha : ah < 18446744073709551616) (hb : bh < 18446744073709551616) : qTail 96 N (nS al ah) (nS bl bh) = if bl = bh then (if ah * 2 ^ (bl % N) < 18446744073709551616 then nS (al * 2 ^ (bl % N)) (ah * 2 ^ (bl % N)) else F_qAll) else F_qAll := by
  show (bif ((bl : Int) == (bh : Int)) then (bif (shrI .u64 (shlI .u64 (ah : Int) (Int.tmod (bl : Int) (N : Int))) (Int.tmod (bl : Int) (N : Int)) == (ah : Int)) then
    (⟨shlI .u64 (al : Int) (Int.tmod (bl : Int) (N : Int)), shlI .u64 (ah : Int) (Int.tmod (bl : Int) (N : Int))⟩ : SSpan) else F_qAll) else F_qAll) = _
  have hk : bl % N < 64 := Nat.lt_of_lt_of_le (Nat.mod_lt _ (by omega)) (by omega)
  rw [tmod_nat]
  generalize bl % N = k at *
  have hp := Nat.two_pow_pos k
  have hm : al * 2 ^ k ≤ ah * 2 ^ k := Nat.mul_le_mul_right _ h1
  rw [shl64 (by omega), shl64 (by omega), shr64 (by omega)]
  rw [cond_if (p := bl = bh) (by rw [Bool.eq_iff_iff, beq_iff_eq, decide_eq_true_eq]; omega)]
  rw [cond_if (p := ah * 2 ^ k < 18446744073709551616) (by
    rw [Bool.eq_iff_iff, beq_iff_eq, decide_eq_true_eq]
    constructor
    · intro h
      have h3 := Nat.div_mul_le_self (ah * 2 ^ k % 18446744073709551616) (2 ^ k)
      rw [show ah * 2 ^ k % 18446744073709551616 / 2 ^ k = ah from by omega] at h3
      have := Nat.mod_lt (ah * 2 ^ k) (show 0 < 18446744073709551616 by decide)
      omega
    · intro h
      rw [Nat.mod_eq_of_lt h, Nat.mul_div_cancel _ hp])]
  by_cases h : ah * 2 ^ k < 18446744073709551616
  · rw [if_pos h, if_pos h, Nat.mod_eq_of_lt h, Nat.mod_eq_of_lt (Nat.lt_of_le_of_lt hm h)]
  · rw [if_neg h, if_neg h]
theorem q_down (N : Nat) (hN : N = 64 ∨ N = 32) {al ah bl bh : Nat} (h1 : al ≤ ah) (h2 : bl ≤ bh) (ha : ah < 18446744073709551616) (hb : bh < 18446744073709551616) : F_qdown (nS al ah) (nS bl bh) N = if N ≤ bh then nS 0 ah else nS (al / 2 ^ bh) (ah / 2 ^ bl) := by
  unfold F_qdown
  rw [cond_if (p := N ≤ bh) (decide_eq_decide.2 (by show ((bh : Int) ≥ (N : Int)) ↔ _; omega))]
  by_cases h : N ≤ bh
  · rw [if_pos h, if_pos h]; rfl
  · rw [if_neg h, if_neg h]
    show (⟨shrI .u64 (al : Int) (bh : Int), shrI .u64 (ah : Int) (bl : Int)⟩ : SSpan) = _
    rw [shr64 (by omega), shr64 (by omega)]
theorem q_rsh (N : Nat) (hN : N = 64 ∨ N = 32) {al ah bl bh : Nat} (h1 : al ≤ ah) (h2 : bl ≤ bh) (ha : ah < 18446744073709551616) (hb : bh < 18446744073709551616) : qTail 112 N (nS al ah) (nS bl bh) = if N ≤ bh then nS 0 ah else nS (al / 2 ^ bh) (ah / 2 ^ bl) := q_down N hN h1 h2 ha hb
theorem q_arsh (N : Nat) (hN : N = 64 ∨ N = 32) {al ah bl bh : Nat} (h1 : al ≤ ah) (h2 : bl ≤ bh) (ha : ah < 18446744073709551616) (hb : bh < 18446744073709551616) : qTail 192 N (nS al ah) (nS bl bh) = if ah < 2 ^ (N - 1) then (if N ≤ bh then nS 0 ah else nS (al / 2 ^ bh) (ah / 2 ^ bl)) else F_qAll := by
  show (bif (shrI .u64 (ah : Int) (IntKind.u64.wrap ((N : Int) - 1)) == 0) then F_qdown (nS al ah) (nS bl bh) N else F_qAll) = _
  have e : IntKind.u64.wrap ((N : Int) - 1) = ((N - 1 : Nat) : Int) := by rw [wrap_u64]; omega
  rw [e, shr64 (by omega), q_down N hN h1 h2 ha hb]
  rw [cond_if (p := ah < 2 ^ (N - 1)) (by
    rw [Bool.eq_iff_iff, beq_iff_eq, decide_eq_true_eq]
    constructor
    · intro h
      rcases Nat.lt_or_ge ah (2 ^ (N - 1)) with h5 | h5
      · exact h5
      · have := Nat.div_pos h5 (Nat.two_pow_pos (N - 1)); omega
    · intro h
      rw [Nat.div_eq_of_lt h]; rfl)]
theorem q_mov (N : Nat) (hN : N = 64 ∨ N = 32) {al ah bl bh : Nat} (h1 : al ≤ ah) (h2 : bl ≤ bh) (ha : ah < 18446744073709551616) (hb : bh < 18446744073709551616) : qTail 176 N (nS al ah) (nS bl bh) = nS bl bh := rfl
theorem q_else (op : Int) (N : Int) (a b : SSpan) (h0 : op ≠ 0) (h1 : op ≠ 16) (h2 : op ≠ 32) (h3 : op ≠ 48) (h4 : op ≠ 144) (h5 : op ≠ 80) (h6 : op ≠ 64) (h7 : op ≠ 160) (h8 : op ≠ 96) (h9 : op ≠ 112) (h10 : op ≠ 192) (h11 : op ≠ 176) : qTail op N a b = F_qAll := by
  have k : ∀ k : Int, op ≠ k → (op == k) = false := fun k hk => beq_eq_false_iff_ne.2 hk
  unfold qTail
  simp only [k 0 (by assumption), k 16 (by assumption), k 32 (by assumption), k 48 (by assumption), k 144 (by assumption), k 64 (by assumption), k 80 (by assumption), k 160 (by assumption), k 96 (by assumption), k 112 (by assumption), k 192 (by assumption), k 176 (by assumption), cond_false]
end Dd
