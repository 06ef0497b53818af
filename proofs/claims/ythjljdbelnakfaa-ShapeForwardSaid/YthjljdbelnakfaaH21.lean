/- What must be in any case is; and who follows goes forward. -/
import Derived.Test.YthjljdbelnakfaaH20
namespace Dd
open Go Go.RowKit Go.Proofs
set_option linter.unusedVariables false
set_option linter.unusedSimpArgs false

theorem shown_true : F_shown = true := by kernel_rfl

theorem AllOk.sub {n m : Nat} {g : Nat → SInsn} (h : AllOk n g) (hm : m ≤ n) : AllOk m g := fun a ha => h a (by omega)

/-- each that follows is further, within, no second half -/
theorem Next.each {n : Nat} {g : Nat → SInsn} (hk : AllOk n g) (h : Okay n g) {a : Nat} (ha : a < n) (hh : halfS g a = false) {F : Nat × (Nat → Int)} (x : Next g a F) (he : F_exits (g a) = false) :
    F.1 ≠ 0 ∧ (∀ K, K < F.1 → ∃ b : Nat, F.2 K = (b : Int) ∧ a < b ∧ b < n ∧ halfS g b = false) ∧ (F.1 = 2 → F.2 0 < F.2 1) := by
  have hone : (g a).op ≠ 24 → a + 1 < n ∧ halfS g (a + 1) = false := fun w => ⟨h.next ha he, by rw [half_next hh]; simpa using w⟩
  cases x with
  | ends h1 _ => rw [he] at h1; cases h1
  | wide h1 w k v =>
    obtain ⟨k1, k2⟩ := h.wide ha hh w
    refine ⟨by omega, fun K hK => ?_, by omega⟩
    obtain rfl : K = 0 := by omega
    exact ⟨a + 2, by rw [v]; omega, by omega, k1, k2⟩
  | ja h1 w j o k v =>
    obtain ⟨k0, k1, k2⟩ := h.jump ha hh j
    refine ⟨by omega, fun K hK => ?_, by omega⟩
    obtain rfl : K = 0 := by omega
    exact ⟨_, by rw [v]; omega, by omega, k1, k2⟩
  | one h1 w j o z k v =>
    obtain ⟨k1, k2⟩ := hone w
    refine ⟨by omega, fun K hK => ?_, by omega⟩
    obtain rfl : K = 0 := by omega
    exact ⟨a + 1, by rw [v]; omega, by omega, k1, k2⟩
  | two h1 w j o z k v u =>
    obtain ⟨k1, k2⟩ := hone w
    obtain ⟨m0, m1, m2⟩ := h.jump ha hh j
    refine ⟨by omega, fun K hK => ?_, fun _ => by rw [v, u]; omega⟩
    have : K = 0 ∨ K = 1 := by omega
    rcases this with rfl | rfl
    · exact ⟨a + 1, by rw [v]; omega, by omega, k1, k2⟩
    · exact ⟨_, by rw [u]; omega, by omega, m1, m2⟩
  | on h1 w j k v =>
    obtain ⟨k1, k2⟩ := hone w
    refine ⟨by omega, fun K hK => ?_, by omega⟩
    obtain rfl : K = 0 := by omega
    exact ⟨a + 1, by rw [v]; omega, by omega, k1, k2⟩

theorem forward_loop {n0 : Nat} {g0 : Nat → SInsn} {n1 : Nat} {g1 : Nat → Int} {T : Nat} (hT : T = min n0 200) (hk : AllOk T g0) (h : Okay T g0) :
    ∀ (fuel a i : Nat), a < T → halfS g0 a = false → i ≤ a → T + 1 < i + fuel → L_ShapeForward_0 fuel n0 g0 n1 g1 (a : Int) (i : Int) = true := by
  intro fuel
  induction fuel with
  | zero => intro a i h1 h2 h3 h4; omega
  | succ fuel ih =>
    intro a i ha hh hi hf
    rw [L_ShapeForward_0, mn200, ← hT, decide_eq_true (show (i : Int) ≤ (T : Int) by omega), cond_true, i64_id (k := (i : Int) + 1) (by omega) (by omega)]
    have x := Follow_next hk h ha hh
    generalize F_Follow T g0 (a : Int) = F at x
    cases he : F_exits (g0 a)
    · obtain ⟨f1, f2, f3⟩ := x.each hk h ha hh he
      rw [beq_eq_false_iff_ne.2 (show ((F.1 : Nat) : Int) ≠ 0 by omega), cond_false]
      have go : ∀ K, K < F.1 → (bif (decide ((F.2 K : Int) ≤ (a : Int))) then false else (bif (decide ((F.2 K : Int) ≥ ((T : Nat) : Int))) then false else (bif (F_Half T g0 (F.2 K)) then false else (bif (((F.1 : Nat) : Int) == 2) then (bif (decide ((F.2 0 : Int) ≥ F.2 1)) then false else (L_ShapeForward_0 fuel n0 g0 n1 g1 (F.2 K) ((i : Int) + 1))) else (L_ShapeForward_0 fuel n0 g0 n1 g1 (F.2 K) ((i : Int) + 1)))))) = true := by
        intro K hK
        obtain ⟨b, e, h1, h2, h3⟩ := f2 K hK
        have hl : L_ShapeForward_0 fuel n0 g0 n1 g1 (F.2 K) ((i : Int) + 1) = true := by
          rw [e]; exact ih b (i + 1) h2 h3 (by omega) (by omega)
        rw [hl, e, decide_eq_false (show ¬ (b : Int) ≤ (a : Int) by omega), cond_false, decide_eq_false (show ¬ (b : Int) ≥ ((T : Nat) : Int) by omega), cond_false, Half_eq (by omega), h3, cond_false]
        by_cases h2' : F.1 = 2
        · rw [beq_iff_eq.2 (show ((F.1 : Nat) : Int) = 2 by omega), cond_true, decide_eq_false (show ¬ F.2 0 ≥ F.2 1 by have := f3 h2'; omega), cond_false]
        · rw [beq_eq_false_iff_ne.2 (show ((F.1 : Nat) : Int) ≠ 2 by omega), cond_false]
      cases decide ((i : Int) < ((n1 : Nat) : Int))
      · rw [cond_false]; exact go 0 (by omega)
      · rw [cond_true]
        obtain ⟨p1, p2⟩ := pick_ok (g1 ((i : Int)).toNat) F.1 (by omega)
        exact go _ (by omega)
    · have hF : F.1 = 0 := by
        cases x with
        | ends _ k => exact k
        | wide h1 => rw [he] at h1; cases h1
        | ja h1 => rw [he] at h1; cases h1
        | one h1 => rw [he] at h1; cases h1
        | two h1 => rw [he] at h1; cases h1
        | on h1 => rw [he] at h1; cases h1
      rw [beq_iff_eq.2 (show ((F.1 : Nat) : Int) = 0 by omega), cond_true, shown_true, cond_true]
      have := ok_exits (hk a ha) (h.known ha hh)
      rw [he] at this
      exact this.symm

theorem Targets_not {n : Nat} {g : Nat → SInsn} (h : (F_Right n g).2 ≠ 0) : F_Targets n g = (0, fun _ => default) := by
  unfold F_Targets
  rw [show ((F_Right n g).2 != 0) = true by simpa using h, cond_true]

theorem forward_true (n0 : Nat) (g0 : Nat → SInsn) (n1 : Nat) (g1 : Nat → Int) (hk : AllOk n0 g0) : F_ShapeForward n0 g0 n1 g1 = true := by
  unfold F_ShapeForward
  rw [mn200]
  have hk' : AllOk (min n0 200) g0 := hk.sub (by omega)
  by_cases h : (F_Right (min n0 200) g0).2 = 0
  · rw [show ((F_Right (min n0 200) g0).2 != 0) = false by simpa using h, cond_false]
    have ho := Right_ok hk'.off h
    exact forward_loop rfl hk' ho _ 0 0 ho.pos rfl (by omega) (by omega)
  · rw [show ((F_Right (min n0 200) g0).2 != 0) = true by simpa using h, cond_true, shown_true, cond_true, Targets_not h, Follow_not h]
    rfl

end Dd
