/- Where a jump leads is where it is followed. -/
import Derived.Test.YthjljdbelnakfaaH31
namespace Dd
open Go Go.RowKit Go.Proofs
set_option linter.unusedVariables false
set_option linter.unusedSimpArgs false

theorem reached_last {n0 : Nat} {g0 : Nat → SInsn} {T : Nat} (hT : T = min n0 100) (hk : AllOk T g0) (h : Okay T g0) {x : Nat → Bool} (hx : ∀ b : Nat, x b = true ↔ LeadsP T g0 (b : Int)) :
    ∀ (fuel a k : Nat), a ≤ T → T < a + fuel → k ≤ (F_Targets T g0).1 → (∀ i, i < k → (F_Targets T g0).2 i < (a : Int)) → (∀ i, k ≤ i → i < (F_Targets T g0).1 → (a : Int) ≤ (F_Targets T g0).2 i) →
      L_ShapeReached_1 fuel n0 g0 x (k : Int) (a : Int) = true := by
  have r := Targets_rising hk h
  have hle := h.le
  have hlen := Targets_len hk h
  intro fuel
  induction fuel with
  | zero => intro a k h1 h2; omega
  | succ fuel ih =>
    intro a k h1 h2 h3 h4 h5
    rw [L_ShapeReached_1, mn100, ← hT]
    have ta : ((a : Int)).toNat = a := rfl
    have tk : ((k : Int)).toNat = k := rfl
    rw [ta, tk, i64_id (k := (a : Int) + 1) (by omega) (by omega), i64_id (k := (k : Int) + 1) (by omega) (by omega)]
    by_cases ha : a < T
    · rw [decide_eq_true (show (a : Int) < (T : Int) by omega), cond_true]
      cases hxa : x a
      · rw [cond_false]
        have hne : ∀ i, i < (F_Targets T g0).1 → (F_Targets T g0).2 i ≠ (a : Int) := fun i hi e => by
          have := (hx a).2 ((r.mem _).1 ⟨i, hi, e⟩)
          rw [hxa] at this; cases this
        refine ih (a + 1) k (by omega) (by omega) h3 (fun i hi => by have := h4 i hi; omega) (fun i h6 h7 => ?_)
        have := h5 i h6 h7
        have := hne i h7
        omega
      · rw [cond_true]
        have hl := (hx a).1 hxa
        obtain ⟨i, i1, i2⟩ := (r.mem _).2 hl
        have hki : ¬ i < k := fun hlt => by have := h4 i hlt; omega
        have hik : i = k := by
          by_cases e : i = k
          · exact e
          · have := r.lt k i (by omega) i1
            have := h5 k (Nat.le_refl _) (by omega)
            omega
        subst hik
        obtain ⟨b, b1, b2, b3⟩ := Targets_in hk h hl
        have hb : a = b := by omega
        subst hb
        rw [decide_eq_false (show ¬ (i : Int) ≥ (((F_Targets T g0).1 : Nat) : Int) by omega), cond_false, i2, show ((a : Int) != (a : Int)) = false by simp, cond_false, Half_eq (by omega), b3, cond_false]
        refine ih (a + 1) (i + 1) (by omega) (by omega) (by omega) (fun j hj => ?_) (fun j h6 h7 => ?_)
        · by_cases e : j = i
          · rw [e, i2]; omega
          · have := h4 j (by omega); omega
        · have := r.lt i j (by omega) h7; omega
    · obtain rfl : a = T := by omega
      rw [decide_eq_false (show ¬ (a : Int) < (a : Int) by omega), cond_false, shown_true, cond_true]
      refine beq_iff_eq.2 ?_
      by_cases e : k = (F_Targets a g0).1
      · omega
      · have h6 := h5 k (Nat.le_refl _) (by omega)
        obtain ⟨b, b1, b2, _⟩ := Targets_in hk h ((r.mem _).1 ⟨k, by omega, rfl⟩)
        omega

theorem reached_loop {n0 : Nat} {g0 : Nat → SInsn} {T : Nat} (hT : T = min n0 100) (hk : AllOk T g0) (h : Okay T g0) :
    ∀ (fuel s : Nat) (x : Nat → Bool), s ≤ T → T < s + fuel → (∀ b : Nat, x b = true ↔ LeadsP s g0 (b : Int)) → L_ShapeReached_0 fuel n0 g0 (s : Int) x = true := by
  have hle := h.le
  intro fuel
  induction fuel with
  | zero => intro s x h1 h2; omega
  | succ fuel ih =>
    intro s x h1 h2 hx
    rw [L_ShapeReached_0, mn100, ← hT]
    have ts : ((s : Int)).toNat = s := rfl
    rw [ts, i64_id (k := (s : Int) + 1) (by omega) (by omega)]
    by_cases hs : s < T
    · rw [decide_eq_true (show (s : Int) < (T : Int) by omega), cond_true, Half_eq (by omega)]
      have grow : ∀ y, LeadsP (s + 1) g0 y ↔ LeadsP s g0 y ∨ (halfS g0 s = false ∧ F_jumps (g0 s) = true ∧ y = (s : Int) + 1 + (g0 s).off) := fun y => by
        constructor
        · rintro ⟨a, a1, a2⟩
          by_cases e : a = s
          · subst e; exact .inr a2
          · exact .inl ⟨a, by omega, a2⟩
        · rintro (⟨a, a1, a2⟩ | a)
          · exact ⟨a, by omega, a2⟩
          · exact ⟨s, by omega, a⟩
      have same : ¬ (halfS g0 s = false ∧ F_jumps (g0 s) = true) → L_ShapeReached_0 fuel n0 g0 ((s : Int) + 1) x = true := fun hne => ih (s + 1) x (by omega) (by omega) fun b => by
        rw [hx, grow]; exact ⟨.inl, fun y => y.elim id (fun z => absurd ⟨z.1, z.2.1⟩ hne)⟩
      cases hh : halfS g0 s
      · rw [cond_false]
        have ej := ok_jumps (hk s hs) (h.known hs hh)
        cases hj : F_Jump (g0 s)
        · rw [Bool.not_false, cond_true]; exact same (by rw [ej, hj]; simp)
        · rw [Bool.not_true, cond_false]
          have hj' : F_jumps (g0 s) = true := by rw [ej]; exact hj
          obtain ⟨k1, k2, k3⟩ := (Follow_next hk h hs hh).last hk h hs hh hj'
          obtain ⟨j1, j2, j3⟩ := h.jump hs hh hj'
          rw [beq_eq_false_iff_ne.2 (show (((F_Follow T g0 (s : Int)).1 : Nat) : Int) ≠ 0 by omega), cond_false]
          have e : IntKind.i64.wrap ((((F_Follow T g0 (s : Int)).1 : Nat) : Int) - 1) = (((F_Follow T g0 (s : Int)).1 - 1 : Nat) : Int) := by rw [i64_id] <;> omega
          rw [e, show (((F_Follow T g0 (s : Int)).1 - 1 : Nat) : Int).toNat = (F_Follow T g0 (s : Int)).1 - 1 from rfl, k3]
          refine ih (s + 1) _ (by omega) (by omega) fun b => ?_
          rw [grow, ← hx, updF_at]
          have et : ((s : Int) + 1 + (g0 s).off).toNat = s + 1 + (g0 s).off.toNat := by omega
          rw [et]
          split
          · rename_i eb
            exact ⟨fun _ => .inr ⟨hh, hj', by omega⟩, fun _ => rfl⟩
          · rename_i eb
            exact ⟨.inl, fun y => y.elim id (fun z => absurd (show b = s + 1 + (g0 s).off.toNat by omega) eb)⟩
      · rw [cond_true]; exact same (by rw [hh]; simp)
    · obtain rfl : s = T := by omega
      rw [decide_eq_false (show ¬ (s : Int) < (s : Int) by omega), cond_false]
      refine reached_last hT hk h hx 101 0 0 (by omega) (by omega) (by omega) (fun i hi => by omega) (fun i _ hi => ?_)
      obtain ⟨b, b1, _⟩ := Targets_in hk h (((Targets_rising hk h).mem _).1 ⟨i, hi, rfl⟩)
      omega

theorem reached_true (n0 : Nat) (g0 : Nat → SInsn) (hk : AllOk n0 g0) : F_ShapeReached n0 g0 = true := by
  unfold F_ShapeReached
  rw [mn100]
  have hk' : AllOk (min n0 100) g0 := hk.sub (by omega)
  by_cases h : (F_Right (min n0 100) g0).2 = 0
  · rw [show ((F_Right (min n0 100) g0).2 != 0) = false by simpa using h, cond_false]
    have ho := Right_ok hk'.off h
    exact reached_loop rfl hk' ho 101 0 _ (by omega) (by omega) fun b => ⟨fun e => (by cases e), fun ⟨a, ha, _⟩ => (by omega)⟩
  · rw [show ((F_Right (min n0 100) g0).2 != 0) = true by simpa using h, cond_true, shown_true]

end Dd
