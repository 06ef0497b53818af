/- Rows that two parts are put into. -/
import Derived.Test.YthjljdbelnakfaaH22
namespace Dd
open Go Go.RowKit Go.Proofs
set_option linter.unusedVariables false
set_option linter.unusedSimpArgs false

theorem cat_all {α : Type} {P : α → Prop} {n k s : Nat} {f g : Nat → α} (h1 : ∀ i, i < n → P (f i)) (h2 : ∀ i, i < k → P (g (i + s))) : ∀ i, i < n + k → P (catF n f s g i) := fun i hi => by
  rw [catF_at]
  split
  · exact h1 i (by assumption)
  · exact h2 (i - n) (by omega)

theorem order_ab (a1 a2 : Int) {m : Nat} (h : 0 < m) (hm : m ≤ 1000) :
    0 ≤ Int.tmod (andI .i64 a1 65535) ((m : Nat) : Int) ∧ Int.tmod (andI .i64 a1 65535) ((m : Nat) : Int) < (m : Int) ∧
    IntKind.i64.wrap (((m : Nat) : Int) - Int.tmod (andI .i64 a1 65535) ((m : Nat) : Int)) ≠ 0 ∧
    Int.tmod (andI .i64 a1 65535) ((m : Nat) : Int) ≤ IntKind.i64.wrap (Int.tmod (andI .i64 a1 65535) ((m : Nat) : Int) + Int.tmod (andI .i64 a2 65535) (IntKind.i64.wrap (((m : Nat) : Int) - Int.tmod (andI .i64 a1 65535) ((m : Nat) : Int)))) ∧
    IntKind.i64.wrap (Int.tmod (andI .i64 a1 65535) ((m : Nat) : Int) + Int.tmod (andI .i64 a2 65535) (IntKind.i64.wrap (((m : Nat) : Int) - Int.tmod (andI .i64 a1 65535) ((m : Nat) : Int)))) < (m : Int) := by
  obtain ⟨h1, h2⟩ := rem_of a1 h
  generalize Int.tmod (andI .i64 a1 65535) ((m : Nat) : Int) = A at h1 h2
  rw [i64_id (k := ((m : Nat) : Int) - A) (by omega) (by omega)]
  obtain ⟨d, rfl⟩ : ∃ d : Nat, A = (m : Int) - (d : Int) := ⟨((m : Int) - A).toNat, by omega⟩
  have e : ((m : Nat) : Int) - ((m : Int) - (d : Int)) = ((d : Nat) : Int) := by omega
  rw [e]
  obtain ⟨h3, h4⟩ := rem_of a2 (T := d) (by omega)
  generalize Int.tmod (andI .i64 a2 65535) ((d : Nat) : Int) = C at h3 h4
  rw [i64_id (by omega) (by omega)]
  omega

theorem order_all {α : Type} {P : α → Prop} {m A B : Nat} {z z1 z2 z3 : Nat → α} {f : Nat → α} {x y : α} (hA : A ≤ B) (hB : B ≤ m) (hf : ∀ i, i < m → P (f i)) (hx : P x) (hy : P y) :
    ∀ i, i < ((0 + (A - 0)) + 1) + ((((0 + (B - 0)) + 1) + (m - B)) - A) →
      P (catF ((0 + (A - 0)) + 1) (catF (0 + (A - 0)) (catF 0 z 0 (catF ((0 + (B - 0)) + 1) (catF (0 + (B - 0)) (catF 0 z1 0 f) 0 (updF z2 0 x)) (0 + B) f)) 0 (updF z3 0 y)) (0 + A)
        (catF ((0 + (B - 0)) + 1) (catF (0 + (B - 0)) (catF 0 z1 0 f) 0 (updF z2 0 x)) (0 + B) f) i) := by
  have one : ∀ (z : Nat → α) (v : α), P v → ∀ i, i < 1 → P (updF z 0 v (i + 0)) := fun z v hv i hi => by
    obtain rfl : i = 0 := by omega
    exact hv
  have more1 : ∀ i, i < ((0 + (B - 0)) + 1) + (m - B) → P (catF ((0 + (B - 0)) + 1) (catF (0 + (B - 0)) (catF 0 z1 0 f) 0 (updF z2 0 x)) (0 + B) f i) :=
    cat_all (cat_all (cat_all (fun i hi => by omega) (fun i hi => hf _ (by omega))) (one z2 x hx)) (fun i hi => hf _ (by omega))
  exact cat_all (cat_all (cat_all (fun i hi => by omega) (fun i hi => more1 _ (by omega))) (one z3 y hy)) (fun i hi => more1 _ (by omega))

theorem last_plain {T : Nat} {g : Nat → SInsn} (hk : AllOk T g) (h : Okay T g) {s : Int} (hs : s + 1 = (T : Int)) : F_Half T g s = false ∧ (g s.toNat).op ≠ 24 ∧ F_Jump (g s.toNat) = false := by
  obtain ⟨a, rfl⟩ : ∃ a : Nat, s = (a : Int) := ⟨s.toNat, by have := h.pos; omega⟩
  have ha : a + 1 = T := by omega
  have hl := h.last_half ha
  have hx := h.last ha
  have hle := h.le
  refine ⟨by rw [Half_eq (by omega)]; exact hl, fun w => ?_, ?_⟩
  · have := (ok_wide (hk a (by omega)) w).2
    rw [hx] at this; cases this
  · show F_Jump (g a) = false
    cases e : F_Jump (g a)
    · rfl
    · have := ok_not_both (hk a (by omega)) (by rw [ok_jumps (hk a (by omega)) (h.known (by omega) hl)]; exact e)
      rw [hx] at this; cases this

theorem AllOk.app {n : Nat} {f : Nat → SInsn} {z : Nat → SInsn} {x : SInsn} (h : AllOk n f) (hx : OkI x) : AllOk (n + 1) (catF n f 0 (updF z 0 x)) :=
  cat_all (P := OkI) h (fun i hi => by obtain rfl : i = 0 := by omega
                                       exact hx)
theorem rem51 (a : Int) : 0 ≤ Int.tmod (andI .i64 a 65535) 51 ∧ Int.tmod (andI .i64 a 65535) 51 ≤ 50 := by
  rw [and_i64_65535, tmod_if, if_pos (by omega)]
  omega
theorem u8_id {k : Int} (h1 : 0 ≤ k) (h2 : k ≤ 255) : IntKind.u8.wrap k = k := by
  simp [IntKind.wrap, IntKind.bits, IntKind.signed]; omega
theorem i32_id {k : Int} (h1 : -2147483648 ≤ k) (h2 : k ≤ 2147483647) : IntKind.i32.wrap k = k := by
  simp [IntKind.wrap, IntKind.bits, IntKind.signed]; omega
theorem okI_move {s : Int} (h1 : 0 ≤ s) (h2 : s ≤ 50) : OkI ⟨183, IntKind.u8.wrap (Int.tmod s 10), 0, 0, IntKind.i32.wrap s⟩ := by
  have e1 : Int.tmod s 10 = s % 10 := by rw [tmod_if, if_pos (by omega)]
  have e2 : IntKind.u8.wrap (Int.tmod s 10) = s % 10 := by rw [e1, u8_id (by omega) (by omega)]
  have e3 := i32_id (k := s) (by omega) (by omega)
  rw [e2, e3]
  constructor <;> (simp only; omega)
end Dd
