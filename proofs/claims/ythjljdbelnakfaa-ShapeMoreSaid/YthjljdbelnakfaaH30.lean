/- What is right stays so with something harmless ahead. -/
import Derived.Test.YthjljdbelnakfaaH29
namespace Dd
open Go Go.RowKit Go.Proofs
set_option linter.unusedVariables false
set_option linter.unusedSimpArgs false

def moveI (j : Nat) : SInsn := ⟨183, ((j % 10 : Nat) : Int), 0, 0, (j : Int)⟩

theorem fl183 : (fl 183).2 = true ∧ (fl 183).1.dst = true ∧ (fl 183).1.imm = true := by decide +kernel
theorem move_known {j : Nat} : F_Known (moveI j) = true := by
  rw [Known_and]
  obtain ⟨h1, h2, h3⟩ := fl183
  have e : (moveI j).op = 183 := rfl
  have e1 : (moveI j).dst = ((j % 10 : Nat) : Int) := rfl
  have e2 : (moveI j).src = 0 := rfl
  have e3 : (moveI j).off = 0 := rfl
  rw [e, e1, e2, e3, h1, h2, h3, decide_eq_false (show ¬ ((j % 10 : Nat) : Int) ≥ 16 by omega)]
  cases (fl 183).1.src <;> cases (fl 183).1.off <;> rfl

theorem move_jumps {j : Nat} : F_jumps (moveI j) = false := by rw [jumps_op]; show F_jumps (op0 183) = false; decide +kernel
theorem move_exits {j : Nat} : F_exits (moveI j) = false := by rw [exits_op]; show F_exits (op0 183) = false; decide +kernel
theorem move_call {j : Nat} : (F_class (moveI j) == 5) = false := by rw [class_op]; show (F_class (op0 183) == 5) = false; decide +kernel

/-- moves ahead -/
structure Ahead (N T : Nat) (g G : Nat → SInsn) : Prop where
  lo : ∀ i, i < N → G i = moveI i
  hi : ∀ i, G (N + i) = g i

namespace Ahead
variable {N T : Nat} {g G : Nat → SInsn}
theorem half_lo (h : Ahead N T g G) : ∀ i, i ≤ N → halfS G i = false :=
  no_half' h
 where
  no_half' (h : Ahead N T g G) : ∀ i, i ≤ N → halfS G i = false
    | 0, _ => rfl
    | i + 1, hi => by
      rw [half_next (no_half' h i (by omega)), h.lo i (by omega)]; rfl
theorem half_hi (h : Ahead N T g G) : ∀ i, halfS G (N + i) = halfS g i
  | 0 => h.half_lo N (Nat.le_refl _)
  | i + 1 => by rw [show N + (i + 1) = (N + i) + 1 by omega, halfS, halfS, half_hi h i, h.hi]
theorem right (h : Ahead N T g G) : rightP (N + T) G ↔ rightP T g := by
  constructor
  · intro k a ha hh
    obtain ⟨k1, k2⟩ := k (N + a) (by omega) (by rw [h.half_hi]; exact hh)
    rw [h.hi] at k1 k2
    rw [show N + a + 1 = N + (a + 1) by omega, h.hi] at k2
    exact ⟨k1, fun w => by obtain ⟨m1, m2⟩ := k2 w; exact ⟨by omega, m2⟩⟩
  · intro k a ha hh
    by_cases e : a < N
    · rw [h.lo a e]; exact ⟨move_known, fun w => by have : (183 : Int) = 24 := w; omega⟩
    · obtain ⟨b, rfl⟩ : ∃ b, a = N + b := ⟨a - N, by omega⟩
      rw [h.half_hi] at hh
      obtain ⟨k1, k2⟩ := k b (by omega) hh
      rw [show N + b + 1 = N + (b + 1) by omega, h.hi, h.hi]
      exact ⟨k1, fun w => by obtain ⟨m1, m2⟩ := k2 w; exact ⟨by omega, m2⟩⟩
theorem wrong_hi (h : Ahead N T g G) (a : Nat) : wrongS (N + T) G (N + a) = wrongS T g a := by
  unfold wrongS
  rw [h.hi, show N + a + 1 + (g a).off.toNat = N + (a + 1 + (g a).off.toNat) by omega, h.half_hi]
  have e1 : decide (N + T ≤ N + (a + 1 + (g a).off.toNat)) = decide (T ≤ a + 1 + (g a).off.toNat) := by
    rw [decide_eq_decide]; omega
  have e2 : decide (N + a + 1 = N + T) = decide (a + 1 = T) := by rw [decide_eq_decide]; omega
  rw [e1, e2]
theorem bad_hi (h : Ahead N T g G) (a : Nat) : badS (N + T) G (N + a) = badS T g a := by
  unfold badS
  have e2 : decide (N + a + 1 = N + T) = decide (a + 1 = T) := by rw [decide_eq_decide]; omega
  rw [h.wrong_hi, h.half_hi, e2]
theorem bad_lo (h : Ahead N T g G) {i : Nat} (hi : i < N) (hT : i + 1 < N + T) : badS (N + T) G i = false := by
  have e : (moveI i).dst = ((i % 10 : Nat) : Int) := rfl
  have e2 : (moveI i).src = 0 := rfl
  unfold badS wrongS
  rw [h.lo i hi, move_jumps, move_call, decide_eq_false (show ¬ i + 1 = N + T by omega), e, e2, decide_eq_false (show ¬ ((i % 10 : Nat) : Int) ≥ 11 by omega), beq_eq_false_iff_ne.2 (show ((i % 10 : Nat) : Int) ≠ 10 by omega)]
  simp
theorem bad_end (h : Ahead N 0 g G) (hN : 0 < N) : badS N G (N - 1) = true := by
  unfold badS wrongS
  rw [decide_eq_true (show N - 1 + 1 = N by omega), h.lo (N - 1) (by omega), move_exits]; simp
theorem leads (h : Ahead N T g G) (x : Int) : LeadsP (N + T) G x ↔ LeadsP T g (x - (N : Int)) := by
  constructor
  · rintro ⟨a, a1, a2, a3, rfl⟩
    by_cases e : a < N
    · rw [h.lo a e, move_jumps] at a3; cases a3
    · obtain ⟨b, rfl⟩ : ∃ b, a = N + b := ⟨a - N, by omega⟩
      rw [h.half_hi] at a2
      rw [h.hi] at a3 ⊢
      exact ⟨b, by omega, a2, a3, by omega⟩
  · rintro ⟨a, a1, a2, a3, e⟩
    exact ⟨N + a, by omega, by rw [h.half_hi]; exact a2, by rw [h.hi]; exact a3, by rw [h.hi]; omega⟩
theorem ok (h : Ahead N T g G) (hN : N ≤ 50) (hk : AllOk T g) : AllOk (N + T) G := fun a ha => by
  by_cases e : a < N
  · rw [h.lo a e]
    constructor <;> (simp only [moveI]; omega)
  · obtain ⟨b, rfl⟩ : ∃ b, a = N + b := ⟨a - N, by omega⟩
    rw [h.hi]; exact hk b (by omega)
end Ahead

theorem more_last {n0 : Nat} {g0 : Nat → SInsn} {N T : Nat} {G : Nat → SInsn} {s8f : Nat → SInsn} (hT : T = min n0 200) (hG : (fun i => (d34 ((catF N (fun i => (v34 (s8f i))) 0 (fun i => (v34 (g0 i)))) i)).getD default) = G)
    {K : Nat} (hK : (F_Targets T g0).1 = K) (hKl : K ≤ 1000) (he : ∀ i, i < K → (F_Targets (N + T) G).2 i = IntKind.i64.wrap ((F_Targets T g0).2 i + (N : Int))) :
    ∀ (fuel i : Nat), i ≤ K → K < i + fuel → L_ShapeMore_1 fuel n0 g0 (N : Int) true N s8f (i : Int) = true := by
  intro fuel
  induction fuel with
  | zero => intro i h1 h2; omega
  | succ fuel ih =>
    intro i h1 h2
    rw [L_ShapeMore_1, mn200, ← hT, hG, hK]
    have ti : ((i : Int)).toNat = i := rfl
    rw [ti, i64_id (k := (i : Int) + 1) (by omega) (by omega)]
    by_cases hi : i < K
    · rw [decide_eq_true (show (i : Int) < (K : Int) by omega), cond_true, he i hi, show (∀ x : Int, (x != x) = false) from fun x => by simp, cond_false]
      exact ih (i + 1) (by omega) (by omega)
    · rw [decide_eq_false (show ¬ (i : Int) < (K : Int) by omega), cond_false]

theorem more_loop {n0 : Nat} {g0 : Nat → SInsn} {N T : Nat} (hT : T = min n0 200) (hk : AllOk T g0) (hN : N ≤ 50) :
    ∀ (fuel i : Nat) (f : Nat → SInsn), i ≤ N → N < i + fuel → (∀ j, j < i → f j = moveI j) → L_ShapeMore_0 fuel n0 g0 (N : Int) true (F_Right T g0).2 (i : Int) i f = true := by
  intro fuel
  induction fuel with
  | zero => intro i f h1 h2; omega
  | succ fuel ih =>
    intro i f h1 h2 h3
    rw [L_ShapeMore_0, mn200, ← hT, i64_id (k := (i : Int) + 1) (by omega) (by omega)]
    by_cases hi : i < N
    · rw [decide_eq_true (show (i : Int) < (N : Int) by omega), cond_true]
      refine ih (i + 1) _ (by omega) (by omega) (fun j hj => ?_)
      have e1 : Int.tmod (i : Int) 10 = ((i % 10 : Nat) : Int) := by rw [tmod_if, if_pos (by omega)]; omega
      rw [e1, u8_id (by omega) (by omega), i32_id (by omega) (by omega), catF_at]
      split
      · exact h3 j (by assumption)
      · obtain rfl : j = i := by omega
        rw [show j - j + 0 = 0 by omega]; rfl
    · obtain rfl : i = N := by omega
      rw [decide_eq_false (show ¬ (i : Int) < (i : Int) by omega), cond_false]
      generalize hG : (fun k => (d34 ((catF i (fun i => (v34 (f i))) 0 (fun i => (v34 (g0 i)))) k)).getD default) = G
      have hA : Ahead i T g0 G := by
        subst hG
        refine ⟨fun k hk => ?_, fun k => ?_⟩
        · show (d34 (catF i (fun i => (v34 (f i))) 0 (fun i => (v34 (g0 i))) k)).getD default = _
          rw [catF_at, if_pos hk, h3 k hk]; rfl
        · show (d34 (catF i (fun i => (v34 (f i))) 0 (fun i => (v34 (g0 i))) (i + k))).getD default = _
          rw [catF_at, if_neg (by omega), show i + k - i + 0 = k by omega]; rfl
      have hok := hA.ok hN hk
      rw [cond_true, cond_true]
      by_cases he : EncP T g0
      · have heG : EncP (i + T) G := ⟨by have := he.1; omega, by omega, hA.right.2 he.2.2⟩
        have hTp := he.1
        rcases Right_is hk.off he with ⟨a, a1, a2, a3, a4⟩ | ⟨a1, a2⟩
        · -- wrong
          rw [a4]
          show (bif ((7 : Int) == 1) then _ else (bif ((7 : Int) != 0) then (bif (((F_Right (i + T) G).2 : Int) == 7) then (decide (((F_Right (i + T) G).1 : Int) ≥ (i : Int))) else false) else _)) = true
          rw [show ((7 : Int) == 1) = false from rfl, cond_false, show ((7 : Int) != 0) = true from rfl, cond_true]
          rcases Right_is hok.off heG with ⟨b, b1, b2, b3, b4⟩ | ⟨b1, b2⟩
          · rw [b4]
            show (bif ((7 : Int) == 7) then decide ((b : Int) ≥ (i : Int)) else false) = true
            rw [show ((7 : Int) == 7) = true from rfl, cond_true]
            have : ¬ b < i := fun h => by rw [hA.bad_lo h (by omega)] at b2; cases b2
            exact decide_eq_true (by omega)
          · have := b1 (i + a) (by omega)
            rw [hA.bad_hi, a2] at this; cases this
        · -- right
          have hO : Okay T g0 := ⟨he, a1⟩
          have hOG : Okay (i + T) G := ⟨heG, fun k hk => by
            by_cases e : k < i
            · exact hA.bad_lo e (by omega)
            · obtain ⟨b, rfl⟩ : ∃ b, k = i + b := ⟨k - i, by omega⟩
              rw [hA.bad_hi]; exact a1 b (by omega)⟩
          rw [a2, hOG.right hok.off]
          show (bif ((0 : Int) == 1) then _ else (bif ((0 : Int) != 0) then _ else (bif ((0 : Int) != 0) then false else _))) = true
          rw [show ((0 : Int) == 1) = false from rfl, cond_false, show ((0 : Int) != 0) = false from rfl, cond_false, cond_false]
          have r1 := Targets_rising hk hO
          have r2 := Targets_rising hok hOG
          have hin : ∀ j, j < (F_Targets T g0).1 → 0 ≤ (F_Targets T g0).2 j ∧ (F_Targets T g0).2 j < T := fun j hj => by
            obtain ⟨b, e, h, _⟩ := Targets_in hk hO ((r1.mem _).1 ⟨j, hj, rfl⟩)
            omega
          have r3 : Rising (F_Targets T g0).1 (fun j => (F_Targets T g0).2 j + (i : Int)) (fun x => LeadsP T g0 (x - (i : Int))) :=
            ⟨fun a b hab hb => by have := r1.lt a b hab hb; show _ + _ < _ + _; omega, fun x => by
              rw [← r1.mem]
              exact ⟨fun ⟨j, hj, e⟩ => ⟨j, hj, by rw [← e]; show _ = (F_Targets T g0).2 j + (i : Int) - (i : Int); omega⟩, fun ⟨j, hj, e⟩ => ⟨j, hj, by show (F_Targets T g0).2 j + (i : Int) = x; omega⟩⟩⟩
          obtain ⟨l1, l2⟩ := r3.same r2 (fun x => (hA.leads x).symm)
          rw [← l1, show ((((F_Targets T g0).1 : Nat) : Int) != (((F_Targets T g0).1 : Nat) : Int)) = false by simp, cond_false]
          have hl := Targets_len hk hO
          exact more_last hT hG rfl (by omega) (fun j hj => by rw [← l2 j hj]; have := hin j hj; rw [i64_id] <;> omega) _ 0 (by omega) (by omega)
      · rw [Right_no he]
        show (bif ((1 : Int) == 1) then (bif (((F_Right (i + T) G).2 : Int) == 1) then true else _) else _) = true
        rw [show ((1 : Int) == 1) = true from rfl, cond_true]
        by_cases hr : rightP T g0
        · have h0 : T = 0 := by
            by_cases e : T = 0
            · exact e
            · exact absurd ⟨by omega, by omega, hr⟩ he
          by_cases hi0 : i = 0
          · have : ¬ EncP (i + T) G := fun h => by have := h.1; omega
            rw [Right_no this]; rfl
          · subst h0
            have heG : EncP (i + 0) G := ⟨by omega, by omega, hA.right.2 hr⟩
            rcases Right_is hok.off heG with ⟨b, b1, b2, b3, b4⟩ | ⟨b1, b2⟩
            · have : b = i - 1 := by
                by_cases e : b = i - 1
                · exact e
                · have := hA.bad_lo (i := b) (by omega) (by omega)
                  rw [this] at b2; cases b2
              rw [b4, i64_id (k := (i : Int) - 1) (by omega) (by omega)]
              show (bif ((7 : Int) == 1) then true else (bif (((0 : Nat) : Int) == 0) then (bif ((7 : Int) == 7) then ((b : Int) == (i : Int) - 1) else false) else false)) = true
              rw [show ((7 : Int) == 1) = false from rfl, cond_false, show (((0 : Nat) : Int) == 0) = true from rfl, cond_true, show ((7 : Int) == 7) = true from rfl, cond_true]
              exact beq_iff_eq.2 (by omega)
            · have := b1 (i - 1) (by omega)
              have e := hA.bad_end (by omega)
              rw [Nat.add_zero] at this
              rw [e] at this; cases this
        · have : ¬ EncP (i + T) G := fun h => hr (hA.right.1 h.2.2)
          rw [Right_no this]; rfl

theorem more_true (n0 : Nat) (g0 : Nat → SInsn) (a1 : Int) (hk : AllOk n0 g0) : F_ShapeMore n0 g0 a1 = true := by
  unfold F_ShapeMore
  rw [mn200, shown_true]
  obtain ⟨h1, h2⟩ := rem51 a1
  generalize Int.tmod (andI .i64 a1 65535) 51 = A at h1 h2 ⊢
  obtain ⟨N, rfl⟩ : ∃ a : Nat, A = (a : Int) := ⟨A.toNat, by omega⟩
  exact more_loop rfl (hk.sub (by omega)) (by omega) 51 0 _ (by omega) (by omega) (fun j hj => by omega)

end Dd
