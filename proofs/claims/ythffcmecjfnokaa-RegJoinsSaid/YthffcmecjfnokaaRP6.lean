/- RegJoins: what it computes is true. -/
import Derived.Test.YthffcmecjfnokaaRP5
namespace Dd
open Go Go.RowKit Go.Proofs
set_option linter.unusedVariables false
set_option linter.unusedSimpArgs false

theorem rjoin_eq (a b : SReg) : F_rJoin a b = F_Join a b := rfl
theorem both0 (a0 a1 : SState) : ∀ (n : Nat) (s : Int) (x : Nat → SReg), 0 ≤ s → s ≤ 11 → 11 < s + n →
    ∃ x', L_Both_0 n a0 a1 s x = L_Both_1 513 a0 a1 x' 0 (fun _ => false) ∧ ∀ i : Nat, i < 11 → x' i = if s ≤ (i : Int) then F_Join (a0.regs i) (a1.regs i) else x i
  | 0, s, x, h0, h1, h2 => by omega
  | n + 1, s, x, h0, h1, h2 => by
    unfold L_Both_0
    by_cases hs : s < 11
    · rw [cond_t (decide_eq_true hs), i64_succ s h0 (by omega)]
      obtain ⟨x', e, hx⟩ := both0 a0 a1 n (s + 1) (updF x s.toNat (F_rJoin (a0.regs s.toNat) (a1.regs s.toNat))) (by omega) (by omega) (by omega)
      refine ⟨x', e, fun i hi => ?_⟩
      rw [hx i hi, updF_at]
      by_cases e1 : i = s.toNat
      · subst e1
        rw [if_neg (by omega), if_pos rfl, if_pos (by omega), rjoin_eq]
      · rw [if_neg e1]
        by_cases e2 : s ≤ (i : Int)
        · rw [if_pos e2, if_pos (by omega)]
        · rw [if_neg e2, if_neg (by omega)]
    · rw [cond_f (decide_eq_false hs)]
      exact ⟨x, rfl, fun i hi => by rw [if_neg (by omega)]⟩
theorem both1 (a0 a1 : SState) (r : Nat → SReg) : ∀ (n : Nat) (s : Int) (x : Nat → Bool), 0 ≤ s → s ≤ 512 → 512 < s + n →
    ∃ x', L_Both_1 n a0 a1 r s x = ⟨r, x'⟩ ∧ ∀ i : Nat, i < 512 → x' i = if s ≤ (i : Int) then (a0.stack i && a1.stack i) else x i
  | 0, s, x, h0, h1, h2 => by omega
  | n + 1, s, x, h0, h1, h2 => by
    unfold L_Both_1
    by_cases hs : s < 512
    · rw [cond_t (decide_eq_true hs), i64_succ s h0 (by omega)]
      have key : ∀ v, v = (a0.stack s.toNat && a1.stack s.toNat) → ∃ x', L_Both_1 n a0 a1 r (s + 1) (updF x s.toNat v) = ⟨r, x'⟩ ∧ ∀ i : Nat, i < 512 → x' i = if s ≤ (i : Int) then (a0.stack i && a1.stack i) else x i := by
        intro v hv
        obtain ⟨x', e, hx⟩ := both1 a0 a1 r n (s + 1) (updF x s.toNat v) (by omega) (by omega) (by omega)
        refine ⟨x', e, fun i hi => ?_⟩
        rw [hx i hi, updF_at]
        by_cases e1 : i = s.toNat
        · subst e1
          rw [if_neg (by omega), if_pos rfl, if_pos (by omega), hv]
        · rw [if_neg e1]
          by_cases e2 : s ≤ (i : Int)
          · rw [if_pos e2, if_pos (by omega)]
          · rw [if_neg e2, if_neg (by omega)]
      cases hx : a0.stack s.toNat
      · rw [cond_false]; exact key _ (by rw [hx]; rfl)
      · rw [cond_true]; exact key _ (by rw [hx]; rfl)
    · rw [cond_f (decide_eq_false hs)]
      exact ⟨x, rfl, fun i hi => by rw [if_neg (by omega)]⟩
theorem both_at (a b : SState) : SameS (F_Both a b) (F_SJoin a b) := by
  obtain ⟨x, e, hx⟩ := both0 a b 12 0 (fun _ => zeroR) (by omega) (by omega) (by omega)
  obtain ⟨y, e', hy⟩ := both1 a b x 513 0 (fun _ => false) (by omega) (by omega) (by omega)
  have : F_Both a b = ⟨x, y⟩ := by rw [← e', ← e]; rfl
  rw [this]
  exact ⟨fun i hi => by rw [(sjoin_at a b).1 i hi]; exact (hx i hi).trans (if_pos (by omega)), fun i hi => by rw [(sjoin_at a b).2 i hi]; exact (hy i hi).trans (if_pos (by omega))⟩

theorem eq32_iff (a b : SReg) : veqB (v32 a) (v32 b) = true ↔ a = b := by
  obtain ⟨k, ⟨p, q⟩, l, h, m⟩ := a
  obtain ⟨k', ⟨p', q'⟩, l', h', m'⟩ := b
  simp [v32, v30, veqB, veqsB]
theorem same1 (a b : SState) : ∀ (n : Nat) (s : Int), 0 ≤ s → s ≤ 512 → 512 < s + n → (L_same_1 n a b s = true ↔ ∀ i : Nat, s ≤ (i : Int) → i < 512 → a.stack i = b.stack i)
  | 0, s, h0, h1, h2 => by omega
  | n + 1, s, h0, h1, h2 => by
    unfold L_same_1
    by_cases hs : s < 512
    · rw [cond_t (decide_eq_true hs), i64_succ s h0 (by omega)]
      have ih := same1 a b n (s + 1) (by omega) (by omega) (by omega)
      cases hx : (a.stack s.toNat == b.stack s.toNat)
      · rw [Bool.not_false, cond_true]
        refine ⟨fun h => (by cases h), fun h => ?_⟩
        have := h s.toNat (by omega) (by omega)
        rw [this] at hx; simp at hx
      · rw [Bool.not_true, cond_false, ih]
        refine ⟨fun h i hi hi' => ?_, fun h i hi hi' => h i (by omega) hi'⟩
        by_cases e : i = s.toNat
        · subst e; simpa using hx
        · exact h i (by omega) hi'
    · rw [cond_f (decide_eq_false hs)]
      exact ⟨fun _ i hi hi' => by omega, fun _ => rfl⟩
theorem same0 (a b : SState) : ∀ (n : Nat) (s : Int), 0 ≤ s → s ≤ 11 → 11 < s + n → (L_same_0 n a b s = true ↔ (∀ i : Nat, s ≤ (i : Int) → i < 11 → a.regs i = b.regs i) ∧ ∀ i : Nat, i < 512 → a.stack i = b.stack i)
  | 0, s, h0, h1, h2 => by omega
  | n + 1, s, h0, h1, h2 => by
    unfold L_same_0
    by_cases hs : s < 11
    · rw [cond_t (decide_eq_true hs), i64_succ s h0 (by omega), of_eq]
      have ih := same0 a b n (s + 1) (by omega) (by omega) (by omega)
      cases hx : veqB (v32 (a.regs s.toNat)) (v32 (b.regs s.toNat))
      · rw [Bool.not_false, cond_true]
        refine ⟨fun h => (by cases h), fun h => ?_⟩
        have := (eq32_iff _ _).2 (h.1 s.toNat (by omega) (by omega))
        rw [this] at hx; cases hx
      · rw [Bool.not_true, cond_false, ih]
        refine ⟨fun h => ⟨fun i hi hi' => ?_, h.2⟩, fun h => ⟨fun i hi hi' => h.1 i (by omega) hi', h.2⟩⟩
        by_cases e : i = s.toNat
        · subst e; exact (eq32_iff _ _).1 hx
        · exact h.1 i (by omega) hi'
    · rw [cond_f (decide_eq_false hs), same1 a b 513 0 (by omega) (by omega) (by omega)]
      exact ⟨fun h => ⟨fun i hi hi' => by omega, fun i hi => h i (by omega) hi⟩, fun h i _ hi => h.2 i hi⟩
theorem same_iff (a b : SState) : F_same a b = true ↔ SameS a b := by
  unfold F_same
  rw [same0 a b 12 0 (by omega) (by omega) (by omega)]
  exact ⟨fun h => ⟨fun i hi => h.1 i (by omega) hi, h.2⟩, fun h => ⟨fun i _ hi => h.regs i hi, h.stack⟩⟩

theorem RegJoins_true (n0 : Nat) (g0 : Nat → SRaw) (n1 : Nat) (g1 : Nat → SRaw) (n2 : Nat) (g2 : Nat → Bool) (n3 : Nat) (g3 : Nat → Bool) : F_RegJoins n0 g0 n1 g1 n2 g2 n3 g3 = true := by
  unfold F_RegJoins
  have ha : SameS (F_state n0 g0 n2 g2).2 (F_state n0 g0 n2 g2).1 := ⟨fun i _ => ((state_at n0 g0 n2 g2).2.1 i).symm, fun i _ => ((state_at n0 g0 n2 g2).2.2 i).symm⟩
  have hb : SameS (F_state n1 g1 n3 g3).2 (F_state n1 g1 n3 g3).1 := ⟨fun i _ => ((state_at n1 g1 n3 g3).2.1 i).symm, fun i _ => ((state_at n1 g1 n3 g3).2.2 i).symm⟩
  generalize F_state n0 g0 n2 g2 = a at ha ⊢
  generalize F_state n1 g1 n3 g3 = b at hb ⊢
  have hj : SameS (F_Both a.2 b.2) (F_SJoin a.1 b.1) := (both_at _ _).trans (sj_congr ha hb)
  have e1 : F_Covers a.1 b.1 = F_same a.1 (F_Both a.2 b.2) := by
    rw [Bool.eq_iff_iff, covers_iff, same_iff]
    exact ⟨fun h => h.symm.trans hj.symm, fun h => hj.symm.trans h.symm⟩
  have e2 : F_same F_Start F_rStart = true := (same_iff _ _).2 ⟨fun i _ => rfl, fun i _ => rfl⟩
  rw [shown_true, cond_true, (same_iff _ _).2 hj.symm, cond_true, e1, beq_self_eq_true, cond_true, e2, cond_true]
  rfl

end Dd
