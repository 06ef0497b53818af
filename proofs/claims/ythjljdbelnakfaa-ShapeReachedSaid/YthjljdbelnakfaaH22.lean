/- What the types tell of an instruction. -/
import Derived.Test.YthjljdbelnakfaaH19
namespace Dd
open Go Go.RowKit Go.Proofs
set_option linter.unusedVariables false
theorem okI_wf {n0 n1 n2 n3 n4 : Int} (w0 : (Lit.int .u8 n0).wf = true) (w1 : (Lit.int .u8 n1).wf = true) (w2 : (Lit.int .u8 n2).wf = true) (w3 : (Lit.int .i16 n3).wf = true) (w4 : (Lit.int .i32 n4).wf = true) : OkI ⟨n0, n1, n2, n3, n4⟩ := by
  simp only [Lit.wf, Bool.and_eq_true, decide_eq_true_eq] at w0 w1 w2 w3 w4
  exact ⟨w0.1, w0.2, w1.1, w1.2, w2.1, w2.2, w3.1, w3.2, w4.1, w4.2⟩
theorem and_i64_65535 (a : Int) : andI .i64 a 65535 = a % 65536 := and_mask .i64 16 (by decide) a (fun x h1 h2 => IntWalk.i64_in _ (by omega))
theorem rem_of (a : Int) {T : Nat} (h : 0 < T) : 0 ≤ Int.tmod (andI .i64 a 65535) ((T : Nat) : Int) ∧ Int.tmod (andI .i64 a 65535) ((T : Nat) : Int) < (T : Int) := by
  rw [and_i64_65535, tmod_if, if_pos (by omega)]
  exact ⟨Int.emod_nonneg _ (by omega), Int.emod_lt_of_pos _ (by omega)⟩
theorem some_of (a : Int) {T : Nat} (h : 0 < T) (hT : T ≤ 1000) : 1 ≤ IntKind.i64.wrap ((1 : Int) + (Int.tmod (andI .i64 a 65535) ((T : Nat) : Int))) ∧ IntKind.i64.wrap ((1 : Int) + (Int.tmod (andI .i64 a 65535) ((T : Nat) : Int))) ≤ T := by
  obtain ⟨h1, h2⟩ := rem_of a h
  rw [i64_id (by omega) (by omega)]
  omega
theorem shown_true : F_shown = true := by kernel_rfl

theorem AllOk.sub {n m : Nat} {g : Nat → SInsn} (h : AllOk n g) (hm : m ≤ n) : AllOk m g := fun a ha => h a (by omega)

/-- each that follows is further, within, no second half -/
theorem Next.each {n : Nat} {g : Nat → SInsn} (hk : AllOk n g) (h : Okay n g) {a : Nat} (ha : a < n) (hh : halfS g a = false) {F : Nat × (Nat → Int)} (x : Next g a F) (he : F_exits (g a) = false) :
    F.1 ≠ 0 ∧ (∀ K, K < F.1 → ∃ b : Nat, F.2 K = (b : Int) ∧ a < b ∧ b < n ∧ halfS g b = false) ∧ (F.1 = 2 → F.2 0 < F.2 1) := by
  have hone : (g a).op ≠ 24 → a + 1 < n ∧ halfS g (a + 1) = false := fun w => ⟨h.next ha he, by rw [half_next hh]; simpa using w⟩
  cases x with
  | ends h1 _ => rw [he] at h1; cases h1
  | wide h1 w k v =>
    obtain ⟨k1, k2⟩ := h.wide ha hh w
    refine ⟨by omega, fun K hK => ?_, by omega⟩
    obtain rfl : K = 0 := by omega
    exact ⟨a + 2, by rw [v]; omega, by omega, k1, k2⟩
  | ja h1 w j o k v =>
    obtain ⟨k0, k1, k2⟩ := h.jump ha hh j
    refine ⟨by omega, fun K hK => ?_, by omega⟩
    obtain rfl : K = 0 := by omega
    exact ⟨_, by rw [v]; omega, by omega, k1, k2⟩
  | one h1 w j o z k v =>
    obtain ⟨k1, k2⟩ := hone w
    refine ⟨by omega, fun K hK => ?_, by omega⟩
    obtain rfl : K = 0 := by omega
    exact ⟨a + 1, by rw [v]; omega, by omega, k1, k2⟩
  | two h1 w j o z k v u =>
    obtain ⟨k1, k2⟩ := hone w
    obtain ⟨m0, m1, m2⟩ := h.jump ha hh j
    refine ⟨by omega, fun K hK => ?_, fun _ => by rw [v, u]; omega⟩
    have : K = 0 ∨ K = 1 := by omega
    rcases this with rfl | rfl
    · exact ⟨a + 1, by rw [v]; omega, by omega, k1, k2⟩
    · exact ⟨_, by rw [u]; omega, by omega, m1, m2⟩
  | on h1 w j k v =>
    obtain ⟨k1, k2⟩ := hone w
    refine ⟨by omega, fun K hK => ?_, by omega⟩
    obtain rfl : K = 0 := by omega
    exact ⟨a + 1, by rw [v]; omega, by omega, k1, k2⟩

theorem Next.last {n : Nat} {g : Nat → SInsn} (hk : AllOk n g) (h : Okay n g) {a : Nat} (ha : a < n) (hh : halfS g a = false) (hj : F_jumps (g a) = true) {F : Nat × (Nat → Int)} (x : Next g a F) :
    F.1 ≠ 0 ∧ F.1 ≤ 2 ∧ F.2 (F.1 - 1) = (a : Int) + 1 + (g a).off := by
  have hx := ok_not_both (hk a ha) hj
  cases x with
  | ends h1 _ => rw [hx] at h1; cases h1
  | wide _ w _ _ => have := (ok_wide (hk a ha) w).1; rw [hj] at this; cases this
  | ja _ _ _ _ k v => rw [k]; exact ⟨by omega, by omega, v⟩
  | one _ _ _ _ z k v => rw [k]; exact ⟨by omega, by omega, by rw [z, Int.add_zero]; exact v⟩
  | two _ _ _ _ _ k _ u => rw [k]; exact ⟨by omega, by omega, u⟩
  | on _ _ j _ _ => rw [hj] at j; cases j

/-- the last one that follows a jump -/
theorem Follow_last {n : Nat} {g : Nat → SInsn} (hk : AllOk n g) (h : Okay n g) {s : Int} (h0 : 0 ≤ s) (h1 : s < (n : Int)) (hh : F_Half n g s = false) (hj : F_Jump (g s.toNat) = true) :
    (F_Follow n g s).1 ≠ 0 ∧ (F_Follow n g s).1 ≤ 2 ∧ IntKind.i64.wrap ((((F_Follow n g s).1 : Nat) : Int) - 1) = (((F_Follow n g s).1 - 1 : Nat) : Int) ∧
      0 ≤ (F_Follow n g s).2 (IntKind.i64.wrap ((((F_Follow n g s).1 : Nat) : Int) - 1)).toNat ∧ (F_Follow n g s).2 (IntKind.i64.wrap ((((F_Follow n g s).1 : Nat) : Int) - 1)).toNat < (n : Int) := by
  obtain ⟨a, rfl⟩ : ∃ a : Nat, s = (a : Int) := ⟨s.toNat, by omega⟩
  have hle := h.le
  rw [Half_eq (by omega)] at hh
  have hj' : F_jumps (g a) = true := by rw [ok_jumps (hk a (by omega)) (h.known (by omega) hh)]; exact hj
  obtain ⟨k1, k2, k3⟩ := (Follow_next hk h (by omega) hh).last hk h (by omega) hh hj'
  obtain ⟨j1, j2, j3⟩ := h.jump (by omega) hh hj'
  have e : IntKind.i64.wrap ((((F_Follow n g (a : Int)).1 : Nat) : Int) - 1) = (((F_Follow n g (a : Int)).1 - 1 : Nat) : Int) := by rw [i64_id] <;> omega
  refine ⟨k1, k2, e, ?_⟩
  rw [e, show (((F_Follow n g (a : Int)).1 - 1 : Nat) : Int).toNat = (F_Follow n g (a : Int)).1 - 1 from rfl, k3]
  omega
end Dd
