/- Without its end nothing is right. -/
import Derived.Test.YthjljdbelnakfaaH23
namespace Dd
open Go Go.RowKit Go.Proofs
set_option linter.unusedVariables false
set_option linter.unusedSimpArgs false

/-- a jump, ahead of i, that leads to k or further -/
def farP (g : Nat → SInsn) (k i : Nat) : Prop := ∃ j, j < i ∧ F_Jump (g j) = true ∧ halfS g j = false ∧ (k : Int) ≤ (j : Int) + 1 + (g j).off

theorem exits149 {i : SInsn} (h : i.op = 149) : F_exits i = true := by rw [exits_op, h]; decide +kernel

/-- cut behind k -/
theorem cut_enc {T k : Nat} {g : Nat → SInsn} (h : Okay T g) (h1 : 0 < k) (h2 : k ≤ T) (hw : ¬ ((g (k - 1)).op = 24 ∧ halfS g (k - 1) = false)) : EncP k g := by
  refine ⟨h1, by have := h.le; omega, fun a ha hh => ?_⟩
  obtain ⟨k1, k2⟩ := h.enc.2.2 a (by omega) hh
  refine ⟨k1, fun w => ?_⟩
  obtain ⟨m1, m2⟩ := k2 w
  refine ⟨?_, m2⟩
  by_cases e : a + 1 = k
  · exfalso; apply hw; rw [← e]; exact ⟨w, hh⟩
  · omega

theorem ends_right {T k : Nat} {g : Nat → SInsn} (hk : AllOk T g) (h : Okay T g) (h1 : 0 < k) (h2 : k ≤ T) :
    ((g (k - 1)).op = 24 → halfS g (k - 1) = false → F_Right k g = (0, 1)) ∧
    (¬ ((g (k - 1)).op = 24 ∧ halfS g (k - 1) = false) → (g (k - 1)).op = 149 → ¬ farP g k k → F_Right k g = (0, 0)) ∧
    (¬ ((g (k - 1)).op = 24 ∧ halfS g (k - 1) = false) → ¬ ((g (k - 1)).op = 149 ∧ ¬ farP g k k) → ∃ a : Nat, a < k ∧ F_Right k g = ((a : Int), 7)) := by
  have ho : OffP k g := (hk.sub h2).off
  refine ⟨fun w hh => Right_no fun he => ?_, fun nw x nf => ?_, fun nw nx => ?_⟩
  · have := ((he.2.2 (k - 1) (by omega) hh).2 w).1; omega
  · have he := cut_enc h h1 h2 nw
    refine Okay.right ho ⟨he, fun a ha => ?_⟩
    have hlast : halfS g (k - 1) = false := by
      cases e : halfS g (k - 1)
      · rfl
      · have := h.second (by omega) e; omega
    have hha : halfS g a = false ∨ (halfS g a = true ∧ a + 1 ≠ k) := by
      cases e : halfS g a
      · exact .inl rfl
      · refine .inr ⟨rfl, fun e2 => ?_⟩
        have : a = k - 1 := by omega
        rw [← this, e] at hlast; cases hlast
    rcases hha with hh | ⟨hh, hne⟩
    · have hT := h.wrong (a := a) (by omega) (.inl hh)
      obtain ⟨t1, t2, t3, t4, t5, t6⟩ := or_false3 hT
      have e5 : (F_jumps (g a) && (decide ((g a).off < 0) || decide (k ≤ a + 1 + (g a).off.toNat) || halfS g (a + 1 + (g a).off.toNat))) = false := by
        cases hj : F_jumps (g a)
        · rfl
        · obtain ⟨j1, j2, j3⟩ := h.jump (by omega) hh hj
          have : ¬ k ≤ a + 1 + (g a).off.toNat := fun hle => nf ⟨a, ha, by rw [← ok_jumps (hk a (by omega)) (h.known (by omega) hh)]; exact hj, hh, by omega⟩
          rw [decide_eq_false (show ¬ (g a).off < 0 by omega), decide_eq_false this, j3]; rfl
      have e6 : (decide (a + 1 = k) && !F_exits (g a)) = false := by
        by_cases e : a + 1 = k
        · have : a = k - 1 := by omega
          rw [this, exits149 x]; simp
        · rw [decide_eq_false e]; rfl
      unfold badS wrongS
      rw [t1, t2, t3, t4, e5, e6]; simp
    · unfold badS
      rw [hh, decide_eq_false hne]; rfl
  · have he := cut_enc h h1 h2 nw
    rcases Right_is ho he with ⟨a, k1, _, _, k4⟩ | ⟨k1, _⟩
    · exact ⟨a, k1, k4⟩
    · exfalso
      by_cases x : (g (k - 1)).op = 149
      · have hf : farP g k k := Classical.byContradiction fun nf => nx ⟨x, nf⟩
        obtain ⟨j, j1, j2, j3, j4⟩ := hf
        have hb := k1 j j1
        unfold badS wrongS at hb
        have hj : F_jumps (g j) = true := by rw [ok_jumps (hk j (by omega)) (h.known (by omega) j3)]; exact j2
        obtain ⟨m1, _, _⟩ := h.jump (by omega) j3 hj
        rw [j3, hj, decide_eq_true (show k ≤ j + 1 + (g j).off.toNat by omega)] at hb
        simp at hb
      · have hb := k1 (k - 1) (by omega)
        unfold badS wrongS at hb
        have hx : F_exits (g (k - 1)) = false := by
          cases e : halfS g (k - 1)
          · rw [ok_exits (hk _ (by omega)) (h.known (by omega) e)]; simpa using x
          · exact ok_second (h.second (by omega) e)
        rw [decide_eq_true (show k - 1 + 1 = k by omega), hx] at hb
        simp at hb

theorem ends_loop {n0 : Nat} {g0 : Nat → SInsn} {T k : Nat} (hT : T = min n0 100) (hk : AllOk T g0) (h : Okay T g0) (h1 : 0 < k) (h2 : k ≤ T) :
    ∀ (fuel i : Nat) (far : Bool), i ≤ k → k < i + fuel → (far = true ↔ farP g0 k i) → L_ShapeEnds_0 fuel n0 g0 true (k : Int) far (i : Int) = true := by
  intro fuel
  induction fuel with
  | zero => intro i far h3 h4; omega
  | succ fuel ih =>
    intro i far h3 h4 hf
    rw [L_ShapeEnds_0, mn100, ← hT]
    have ti : ((i : Int)).toNat = i := rfl
    rw [ti, i64_id (k := (i : Int) + 1) (by omega) (by omega)]
    by_cases hi : i < k
    · have hoi := hk i (by omega)
      have o0 := hoi.off0
      have o1 := hoi.off1
      rw [decide_eq_true (show (i : Int) < (k : Int) by omega), cond_true, Half_eq (by omega), i64_id (k := (g0 i).off) (by omega) (by omega), i64_id (k := (i : Int) + 1 + (g0 i).off) (by omega) (by omega)]
      have up : ∀ x : Bool, (x = true ↔ farP g0 k (i + 1)) → L_ShapeEnds_0 fuel n0 g0 true (k : Int) x ((i : Int) + 1) = true := fun x hx => ih (i + 1) x (by omega) (by omega) hx
      have grow : farP g0 k (i + 1) ↔ farP g0 k i ∨ (F_Jump (g0 i) = true ∧ halfS g0 i = false ∧ (k : Int) ≤ (i : Int) + 1 + (g0 i).off) := by
        constructor
        · rintro ⟨j, j1, j2, j3, j4⟩
          by_cases e : j = i
          · subst e; exact .inr ⟨j2, j3, j4⟩
          · exact .inl ⟨j, by omega, j2, j3, j4⟩
        · rintro (⟨j, j1, j2⟩ | j)
          · exact ⟨j, by omega, j2⟩
          · exact ⟨i, by omega, j⟩
      cases far
      · have hf' : ¬ farP g0 k i := fun x => by have := hf.2 x; cases this
        rw [cond_false]
        cases hj : F_Jump (g0 i)
        · rw [cond_false]; refine up false ?_
          rw [grow, hj]; simp [hf']
        · rw [cond_true]
          cases hh : halfS g0 i
          · rw [Bool.not_false, cond_true]; refine up _ ?_
            rw [grow, decide_eq_true_eq]
            exact ⟨fun x => .inr ⟨hj, hh, x⟩, fun x => x.elim (fun y => absurd y hf') (fun y => y.2.2)⟩
          · rw [Bool.not_true, cond_false]; refine up false ?_
            rw [grow, hh]; simp [hf']
      · rw [cond_true]; refine up true ?_
        rw [grow]; exact ⟨fun _ => .inl (hf.1 rfl), fun _ => rfl⟩
    · obtain rfl : i = k := by omega
      rw [decide_eq_false (show ¬ (i : Int) < (i : Int) by omega), cond_false]
      have e1 : IntKind.i64.wrap ((i : Int) - 1) = ((i - 1 : Nat) : Int) := by rw [i64_id] <;> omega
      have e2 : ((i - 1 : Nat) : Int).toNat = i - 1 := rfl
      have e3 : ((i : Int)).toNat - 0 = i := rfl
      rw [e1, e2, e3, Half_eq (by omega)]
      obtain ⟨r1, r2, r3⟩ := ends_right hk h h1 h2
      have third : ¬ ((g0 (i - 1)).op = 24 ∧ halfS g0 (i - 1) = false) → ¬ ((g0 (i - 1)).op = 149 ∧ ¬ farP g0 i i) → (bif true then (bif (((F_Right i g0).2 : Int) == 7) then (decide (((F_Right i g0).1 : Int) < (i : Int))) else false) else false) = true := fun a b => by
        obtain ⟨z, z1, z2⟩ := r3 a b
        rw [z2]
        show decide ((z : Int) < (i : Int)) = true
        exact decide_eq_true (by omega)
      have tail : ¬ ((g0 (i - 1)).op = 24 ∧ halfS g0 (i - 1) = false) → (bif (((g0 (i - 1)).op : Int) == 149) then (bif (!far) then (bif true then (bif (((F_Right i g0).2 : Int) == 0) then (((F_Right i g0).1 : Int) == 0) else false) else false) else (bif true then (bif (((F_Right i g0).2 : Int) == 7) then (decide (((F_Right i g0).1 : Int) < (i : Int))) else false) else false)) else (bif true then (bif (((F_Right i g0).2 : Int) == 7) then (decide (((F_Right i g0).1 : Int) < (i : Int))) else false) else false)) = true := fun a => by
        by_cases x : (g0 (i - 1)).op = 149
        · rw [beq_iff_eq.2 x, cond_true]
          cases hfar : far
          · rw [Bool.not_false, cond_true, cond_true]
            have nf : ¬ farP g0 i i := fun y => by have := hf.2 y; rw [hfar] at this; cases this
            rw [r2 a x nf]; rfl
          · rw [Bool.not_true, cond_false]
            exact third a (fun y => y.2 (hf.1 hfar))
        · rw [beq_eq_false_iff_ne.2 x, cond_false]
          exact third a (fun y => x y.1)
      by_cases w : (g0 (i - 1)).op = 24
      · rw [beq_iff_eq.2 w, cond_true]
        cases hh : halfS g0 (i - 1)
        · rw [Bool.not_false, cond_true, r1 w hh]; rfl
        · rw [Bool.not_true, cond_false]
          exact tail (fun y => by rw [hh] at y; cases y.2)
      · rw [beq_eq_false_iff_ne.2 w, cond_false]
        exact tail (fun y => w y.1)

theorem ends_true (n0 : Nat) (g0 : Nat → SInsn) (a1 : Int) (hk : AllOk n0 g0) : F_ShapeEnds n0 g0 a1 = true := by
  unfold F_ShapeEnds
  rw [mn100]
  have hk' : AllOk (min n0 100) g0 := hk.sub (by omega)
  by_cases h : (F_Right (min n0 100) g0).2 = 0
  · rw [show ((F_Right (min n0 100) g0).2 != 0) = false by simpa using h, cond_false, shown_true]
    have ho := Right_ok hk'.off h
    obtain ⟨k1, k2⟩ := some_of a1 ho.pos (by omega)
    generalize IntKind.i64.wrap ((1 : Int) + (Int.tmod (andI .i64 a1 65535) ((min n0 100 : Nat) : Int))) = K at k1 k2
    obtain ⟨k, rfl⟩ : ∃ k : Nat, K = (k : Int) := ⟨K.toNat, by omega⟩
    exact ends_loop rfl hk' ho (by omega) (by omega) _ 0 false (by omega) (by omega) ⟨fun h => (by cases h), fun ⟨j, h, _⟩ => by omega⟩
  · rw [show ((F_Right (min n0 100) g0).2 != 0) = true by simpa using h, cond_true, shown_true]

end Dd
