/- The plain law SpanHolds. -/
import Derived.Test.YtanopmoiegbjdaaSP7
namespace Dd
open Go Go.RowKit
set_option linter.unusedVariables false
set_option linter.unusedSimpArgs false

theorem aDo64_lt (op : Int) {A B : Nat} (hA : A < 18446744073709551616) (hB : B < 18446744073709551616) : 0 ≤ (F_aDo op true (A : Int) (B : Int)).1 ∧ (F_aDo op true (A : Int) (B : Int)).1 < 18446744073709551616 := by
  have cnd : ∀ {c : Bool} {x y : Int × Bool}, (0 ≤ x.1 ∧ x.1 < 18446744073709551616) → (0 ≤ y.1 ∧ y.1 < 18446744073709551616) → (0 ≤ (bif c then x else y).1 ∧ (bif c then x else y).1 < 18446744073709551616) := fun {c x y} h1 h2 => by cases c <;> assumption
  have w : ∀ n : Int, 0 ≤ IntKind.u64.wrap n ∧ IntKind.u64.wrap n < 18446744073709551616 := fun n => ⟨wrap64_nn n, wrap64_lt n⟩
  have n : ∀ N : Nat, N < 18446744073709551616 → 0 ≤ (N : Int) ∧ (N : Int) < 18446744073709551616 := fun N h => by omega
  unfold F_aDo
  rw [cond_true]
  show 0 ≤ (F_do64 op 64 (A : Int) (B : Int)).1 ∧ (F_do64 op 64 (A : Int) (B : Int)).1 < 18446744073709551616
  unfold F_do64
  have hk : B % 64 < 64 := Nat.mod_lt _ (by decide)
  rw [or64 hA hB, and64 hA hB, xor64 hA hB, tmod_nat A B, show (64 : Int) = ((64 : Nat) : Int) from rfl, tmod_nat, shl64 (by omega), shr64 (by omega)]
  exact cnd (w _) (cnd (w _) (cnd (w _) (cnd (cnd (n 0 (by decide)) (w _)) (cnd (cnd (n _ hA) (n _ (Nat.lt_of_le_of_lt (Nat.mod_le _ _) hA))) (cnd (n _ (or_lt64 hA hB)) (cnd (n _ (and_lt _ _ _ hA)) (cnd (n _ (xor_lt64 hA hB))
    (cnd (n _ (Nat.mod_lt _ (by decide))) (cnd (n _ (Nat.lt_of_le_of_lt (Nat.div_le_self _ _) hA)) (cnd (w _) (cnd (w _) (cnd (n _ hB) (n 0 (by decide))))))))))))))
theorem aDo_nat (op : Int) (w : Bool) {A B : Nat} (hA : A < 18446744073709551616) (hB : B < 18446744073709551616) : ∃ r : Nat, (F_aDo op w (A : Int) (B : Int)).1 = (r : Int) ∧ r < Mw w := by
  refine ⟨(F_aDo op w (A : Int) (B : Int)).1.toNat, ?_, ?_⟩
  · cases w
    · have := aDo32_lt op A B; omega
    · have := aDo64_lt op hA hB; omega
  · cases w
    · have := aDo32_lt op A B; show _ < 4294967296; omega
    · have := aDo64_lt op hA hB; show _ < 18446744073709551616; omega
theorem fst_nat {n r : Nat} (h : (((n : Nat) : Int), true).1 = (r : Int)) : r = n := by
  have : (n : Int) = r := h
  omega
theorem Nw_or (w : Bool) : Nw w = 64 ∨ Nw w = 32 := by cases w; exact .inr rfl; exact .inl rfl
theorem Nw_lt (w : Bool) : 0 < Nw w ∧ Nw w ≤ 64 := by cases w <;> decide
theorem bitsN_eq (w : Bool) : bitsN w = ((Nw w : Nat) : Int) := by cases w <;> rfl
theorem sg_small (w : Bool) {X : Nat} (h : X < 2 ^ (Nw w - 1)) : sg w X = (X : Int) := by
  cases w
  · have h : X < 2147483648 := h
    rw [sg_false]; omega
  · have h : X < 9223372036854775808 := h
    rw [sg_true]; omega

/-- the number is in the span, if what is above the width is cut off -/
def Hd (w : Bool) (s : SSpan) (r : Nat) : Prop := ∃ l h : Nat, s = nS l h ∧ l ≤ h ∧ h < 18446744073709551616 ∧ (h < Mw w → l ≤ r ∧ r ≤ h)
theorem hd_all {w : Bool} {r : Nat} (h : r < Mw w) : Hd w F_qAll r := ⟨0, 18446744073709551615, rfl, by decide, by decide, fun _ => by have := Mw_le w; omega⟩
theorem hd {w : Bool} {l h r : Nat} (h1 : l ≤ h) (h2 : h < 18446744073709551616) (h3 : h < Mw w → l ≤ r ∧ r ≤ h) : Hd w (nS l h) r := ⟨l, h, rfl, h1, h2, h3⟩
theorem hdC {w : Bool} {p : Prop} [Decidable p] {s t : SSpan} {r : Nat} (h1 : p → Hd w s r) (h2 : ¬ p → Hd w t r) : Hd w (if p then s else t) r := by
  by_cases h : p
  · rw [if_pos h]; exact h1 h
  · rw [if_neg h]; exact h2 h
theorem pow_mono {a b : Nat} (h : a ≤ b) : 2 ^ a ≤ 2 ^ b := Nat.pow_le_pow_right (by decide) h

set_option maxHeartbeats 1000000 in
theorem tail_holds (op : Int) (w : Bool) {al ah bl bh X Y r : Nat} (hX : al ≤ X ∧ X ≤ ah) (hY : bl ≤ Y ∧ Y ≤ bh) (ha : ah < Mw w) (hb : bh < Mw w)
    (hr : (F_aDo op w (X : Int) (Y : Int)).1 = (r : Int)) (hrM : r < Mw w) : Hd w (qTail op ((Nw w : Nat) : Int) (nS al ah) (nS bl bh)) r := by
  have hM := Mw_le w
  have hN := Nw_or w
  have hN2 := Nw_lt w
  have h1 : al ≤ ah := by omega
  have h2 : bl ≤ bh := by omega
  have ha6 : ah < 18446744073709551616 := by omega
  have hb6 : bh < 18446744073709551616 := by omega
  have X6 : X < 18446744073709551616 := by omega
  have Y6 : Y < 18446744073709551616 := by omega
  have lX : lw w X = X := lw_of (by omega)
  have lY : lw w Y = Y := lw_of (by omega)
  have kY : Y % Nw w < Nw w := Nat.mod_lt _ hN2.1
  have ones : X < 2 ^ Lib.bitLen (max ah bh) ∧ Y < 2 ^ Lib.bitLen (max ah bh) ∧ 2 ^ Lib.bitLen (max ah bh) ≤ 18446744073709551616 := by
    have hb := bl_lt (max ah bh) (by omega)
    exact ⟨by omega, by omega, pow_le64 hb.2⟩
  have down : ∀ q : Nat, q = X / 2 ^ (Y % Nw w) → Hd w (if Nw w ≤ bh then nS 0 ah else nS (al / 2 ^ bh) (ah / 2 ^ bl)) q := fun q hq => by
    refine hdC (fun h => ?_) (fun h => ?_)
    · refine hd (Nat.zero_le _) ha6 (fun _ => ⟨Nat.zero_le _, ?_⟩)
      rw [hq]; exact Nat.le_trans (Nat.div_le_self _ _) hX.2
    · have e : Y % Nw w = Y := Nat.mod_eq_of_lt (by omega)
      rw [e] at hq
      have p1 := Nat.div_le_div hX.1 (pow_mono hY.2) (Nat.ne_of_gt (Nat.two_pow_pos Y))
      have p2 := Nat.div_le_div hX.2 (pow_mono hY.1) (Nat.ne_of_gt (Nat.two_pow_pos bl))
      refine hd (Nat.le_trans p1 p2) (Nat.lt_of_le_of_lt (Nat.div_le_self _ _) ha6) (fun _ => ?_)
      rw [hq]; exact ⟨p1, p2⟩
  by_cases h : op = 0
  · subst h
    rw [aDo_add w X6 Y6, lX, lY] at hr
    have hr := fst_nat hr
    rw [q_add _ hN h1 h2 ha6 hb6]
    refine hdC (fun h => hd (by omega) (by omega) (fun h5 => ?_)) (fun _ => hd_all hrM)
    rw [Nat.mod_eq_of_lt (by omega)] at hr; omega
  by_cases h : op = 16
  · subst h
    rw [aDo_sub w X6 Y6, lX, lY] at hr
    have hr := fst_nat hr
    rw [q_sub _ hN h1 h2 ha6 hb6]
    refine hdC (fun h => hd (by omega) (by omega) (fun h5 => ?_)) (fun _ => hd_all hrM)
    rw [show X + Mw w - Y = X - Y + Mw w from by omega, Nat.add_mod_right, Nat.mod_eq_of_lt (by omega)] at hr; omega
  by_cases h : op = 32
  · subst h
    rw [aDo_mul w X6 Y6, lX, lY] at hr
    have hr := fst_nat hr
    rw [q_mul _ hN h1 h2 ha6 hb6]
    have m1 := Nat.mul_le_mul hX.1 hY.1
    have m2 := Nat.mul_le_mul hX.2 hY.2
    refine hdC (fun h => hd (Nat.le_trans m1 m2) h (fun h5 => ?_)) (fun _ => hd_all hrM)
    rw [Nat.mod_eq_of_lt (Nat.lt_of_le_of_lt m2 h5)] at hr
    rw [hr]; exact ⟨m1, m2⟩
  by_cases h : op = 48
  · subst h
    rw [aDo_div w X6 Y6, lX, lY] at hr
    have hr := fst_nat hr
    rw [q_div _ hN h1 h2 ha6 hb6]
    refine hdC (fun h => ?_) (fun h => ?_)
    · rw [if_neg (by omega)] at hr
      have p1 := Nat.div_le_div hX.1 hY.2 (show Y ≠ 0 by omega)
      have p2 := Nat.div_le_div hX.2 hY.1 (show bl ≠ 0 by omega)
      exact hd (Nat.le_trans p1 p2) (Nat.lt_of_le_of_lt (Nat.div_le_self _ _) ha6) (fun _ => by rw [hr]; exact ⟨p1, p2⟩)
    · refine hd (Nat.zero_le _) ha6 (fun _ => ⟨Nat.zero_le _, ?_⟩)
      by_cases hy : Y = 0
      · rw [if_pos hy] at hr; omega
      · rw [if_neg hy] at hr; rw [hr]; exact Nat.le_trans (Nat.div_le_self _ _) hX.2
  by_cases h : op = 144
  · subst h
    rw [aDo_mod w X6 Y6, lX, lY] at hr
    have hr := fst_nat hr
    have hmod : Y ≠ 0 → X % Y < Y ∧ X % Y ≤ X := fun hy => ⟨Nat.mod_lt _ (by omega), Nat.mod_le _ _⟩
    rw [q_mod _ hN h1 h2 ha6 hb6]
    refine hdC (fun h => ?_) (fun h => hdC (fun h' => ?_) (fun h' => ?_))
    · rw [if_neg (by omega), Nat.mod_eq_of_lt (by omega)] at hr
      exact hd h1 ha6 (fun _ => by omega)
    · rw [if_neg (by omega)] at hr
      have := hmod (by omega)
      exact hd (Nat.zero_le _) (by omega) (fun _ => by omega)
    · refine hd (Nat.zero_le _) ha6 (fun _ => ?_)
      by_cases hy : Y = 0
      · rw [if_pos hy] at hr; omega
      · rw [if_neg hy] at hr; have := hmod hy; omega
  by_cases h : op = 64
  · subst h
    rw [aDo_or w X6 Y6, lX, lY] at hr
    have hr := fst_nat hr
    rw [q_or _ hN h1 h2 ha6 hb6]
    have o1 := Nat.left_le_or (n := X) (m := Y)
    have o2 := Nat.right_le_or (n := X) (m := Y)
    have o3 := Nat.or_lt_two_pow ones.1 ones.2.1
    obtain ⟨q1, q2, q3⟩ := ones
    generalize 2 ^ Lib.bitLen (max ah bh) = z at *
    rw [← hr] at o1 o2 o3
    exact hd (by omega) (by omega) (fun _ => by omega)
  by_cases h : op = 80
  · subst h
    rw [aDo_and w X6 Y6, lX, lY] at hr
    have hr := fst_nat hr
    rw [q_and _ hN h1 h2 ha6 hb6]
    have o1 := Nat.and_le_left (n := X) (m := Y)
    have o2 := Nat.and_le_right (n := X) (m := Y)
    rw [← hr] at o1 o2
    exact hd (Nat.zero_le _) (by omega) (fun _ => by omega)
  by_cases h : op = 160
  · subst h
    rw [aDo_xor w X6 Y6, lX, lY] at hr
    have hr := fst_nat hr
    rw [q_xor _ hN h1 h2 ha6 hb6]
    have o3 := Nat.xor_lt_two_pow ones.1 ones.2.1
    obtain ⟨q1, q2, q3⟩ := ones
    generalize 2 ^ Lib.bitLen (max ah bh) = z at *
    rw [← hr] at o3
    exact hd (Nat.zero_le _) (by omega) (fun _ => by omega)
  by_cases h : op = 96
  · subst h
    rw [aDo_lsh w X6 Y6, lX, lY] at hr
    have hr := fst_nat hr
    rw [q_lsh _ hN h1 h2 ha6 hb6]
    refine hdC (fun h => hdC (fun h' => ?_) (fun _ => hd_all hrM)) (fun _ => hd_all hrM)
    have e : Y = bl := by omega
    rw [e] at hr
    have m1 := Nat.mul_le_mul_right (2 ^ (bl % Nw w)) hX.1
    have m2 := Nat.mul_le_mul_right (2 ^ (bl % Nw w)) hX.2
    refine hd (Nat.le_trans m1 m2) h' (fun h5 => ?_)
    rw [Nat.mod_eq_of_lt (Nat.lt_of_le_of_lt m2 h5)] at hr
    rw [hr]; exact ⟨m1, m2⟩
  by_cases h : op = 112
  · subst h
    rw [aDo_rsh w X6 Y6, lX, lY] at hr
    rw [q_rsh _ hN h1 h2 ha6 hb6]
    exact down r (fst_nat hr)
  by_cases h : op = 192
  · subst h
    rw [aDo_arsh w X6 Y6, lX, lY] at hr
    rw [q_arsh _ hN h1 h2 ha6 hb6]
    refine hdC (fun h => down r ?_) (fun _ => hd_all hrM)
    rw [sg_small w (by omega)] at hr
    have q : X / 2 ^ (Y % Nw w) < Mw w := Nat.lt_of_le_of_lt (Nat.div_le_self _ _) (by omega)
    have hr : ((X : Int) / 2 ^ (Y % Nw w)) % (Mw w : Int) = (r : Int) := hr
    rw [show ((X : Int) / 2 ^ (Y % Nw w)) = ((X / 2 ^ (Y % Nw w) : Nat) : Int) from by simp, ← Int.natCast_emod, Nat.mod_eq_of_lt q] at hr
    omega
  by_cases h : op = 176
  · subst h
    rw [aDo_mov w X6 Y6, lY] at hr
    have hr := fst_nat hr
    rw [q_mov _ hN h1 h2 ha6 hb6]
    exact hd h2 hb6 (fun _ => by omega)
  rw [q_else]; exact hd_all hrM
  all_goals assumption

/-! Try# the whole -/
theorem nS_of {s : SSpan} (h : OkS s) : ∃ l u : Nat, s = nS l u ∧ l ≤ u ∧ u < 18446744073709551616 := by
  obtain ⟨a, b⟩ := s
  unfold OkS at h
  dsimp only at h
  exact ⟨a.toNat, b.toNat, sp (by omega) (by omega), by omega, by omega⟩
theorem cut_ok (w : Bool) {l u : Nat} (h1 : l ≤ u) (h2 : u < 18446744073709551616) : ∃ l' u' : Nat, cutW w (nS l u) = nS l' u' ∧ l' ≤ u' ∧ u' < Mw w ∧ (∀ r, l ≤ r → r ≤ u → l' ≤ lw w r ∧ lw w r ≤ u') ∧ (∀ r, r < Mw w → (u < Mw w → l ≤ r ∧ r ≤ u) → l' ≤ r ∧ r ≤ u') ∧
    (u < Mw w → l' = l ∧ u' = u) ∧ (¬ u < Mw w → l' = 0 ∧ u' = Mw w - 1) := by
  cases w
  · have e : Mw false = 4294967296 := rfl
    rw [e]
    have lx : ∀ r, lw false r = r % 4294967296 := fun _ => rfl
    by_cases h : u < 4294967296
    · refine ⟨l, u, ?_, h1, h, fun r a b => ?_, fun r _ a => a h, fun _ => ⟨rfl, rfl⟩, fun k => absurd h k⟩
      · show F_sLow (nS l u) = nS l u
        unfold F_sLow
        rw [decide_eq_false (show ¬ ((u : Int) > 4294967295) by omega)]; rfl
      · rw [lx, Nat.mod_eq_of_lt (by omega)]; exact ⟨a, b⟩
    · refine ⟨0, 4294967295, ?_, by decide, by decide, fun r a b => ?_, fun r a _ => by omega, fun k => absurd k h, fun _ => ⟨rfl, rfl⟩⟩
      · show F_sLow (nS l u) = nS 0 4294967295
        unfold F_sLow
        rw [decide_eq_true (show ((u : Int) > 4294967295) by omega)]; rfl
      · rw [lx]; omega
  · have e : Mw true = 18446744073709551616 := rfl
    rw [e]
    have lx : ∀ r, lw true r = r := fun _ => rfl
    exact ⟨l, u, rfl, h1, h2, fun r a b => by rw [lx]; exact ⟨a, b⟩, fun r _ a => a h2, fun _ => ⟨rfl, rfl⟩, fun k => absurd h2 k⟩
theorem aDo_lw (op : Int) (w : Bool) (A B : Nat) : F_aDo op w ((lw w A : Nat) : Int) ((lw w B : Nat) : Int) = F_aDo op w (A : Int) (B : Int) := by
  cases w
  · exact aDo_mod32 op A B
  · rfl
theorem ok_same (op : Int) (w : Bool) {A B C D : Nat} (hA : A < 18446744073709551616) (hB : B < 18446744073709551616) (hC : C < 18446744073709551616) (hD : D < 18446744073709551616) : (F_aDo op w (A : Int) (B : Int)).2 = (F_aDo op w (C : Int) (D : Int)).2 := by
  by_cases h0 : op = 0; · subst h0; rw [aDo_add w hA hB, aDo_add w hC hD]
  by_cases h1 : op = 16; · subst h1; rw [aDo_sub w hA hB, aDo_sub w hC hD]
  by_cases h2 : op = 32; · subst h2; rw [aDo_mul w hA hB, aDo_mul w hC hD]
  by_cases h3 : op = 48; · subst h3; rw [aDo_div w hA hB, aDo_div w hC hD]
  by_cases h4 : op = 64; · subst h4; rw [aDo_or w hA hB, aDo_or w hC hD]
  by_cases h5 : op = 80; · subst h5; rw [aDo_and w hA hB, aDo_and w hC hD]
  by_cases h6 : op = 96; · subst h6; rw [aDo_lsh w hA hB, aDo_lsh w hC hD]
  by_cases h7 : op = 112; · subst h7; rw [aDo_rsh w hA hB, aDo_rsh w hC hD]
  by_cases h8 : op = 128; · subst h8; rw [aDo_neg w hA hB, aDo_neg w hC hD]
  by_cases h9 : op = 144; · subst h9; rw [aDo_mod w hA hB, aDo_mod w hC hD]
  by_cases h10 : op = 160; · subst h10; rw [aDo_xor w hA hB, aDo_xor w hC hD]
  by_cases h11 : op = 176; · subst h11; rw [aDo_mov w hA hB, aDo_mov w hC hD]
  by_cases h12 : op = 192; · subst h12; rw [aDo_arsh w hA hB, aDo_arsh w hC hD]
  have n : ∀ k : Int, op ≠ k → (op == k) = false := fun k hk => beq_eq_false_iff_ne.2 hk
  unfold F_aDo F_do64 F_do32
  cases w <;> simp only [cond_true, cond_false, n 0 h0, n 16 h1, n 32 h2, n 48 h3, n 64 h4, n 80 h5, n 96 h6, n 112 h7, n 128 h8, n 144 h9, n 160 h10, n 176 h11, n 192 h12]

theorem sDo_tail (op : Int) (w : Bool) (a b : SSpan) (ha : OkS a) (hb : OkS b) : F_sDo op w a b =
    (bif (F_aDo op w (cutW w a).lo (cutW w b).lo).2 then (bif F_one (cutW w a) && F_one (cutW w b) then F_sOne (F_aDo op w (cutW w a).lo (cutW w b).lo).1
      else cutW w (qTail op ((Nw w : Nat) : Int) (cutW w a) (cutW w b))) else cutW w F_sAll) := by
  have ka : OkS (cutW w a) := by cases w; exact sLow_ok ha; exact ha
  have kb : OkS (cutW w b) := by cases w; exact sLow_ok hb; exact hb
  rw [sDo_def, ← bitsN_eq, ← tail_eq op (bitsN w) _ _ ka kb (by cases w; exact .inr rfl; exact .inl rfl)]
  cases (F_aDo op w (cutW w a).lo (cutW w b).lo).2
  · rfl
  · cases F_one (cutW w a) && F_one (cutW w b)
    · cases (F_does op (bitsN w) (cutW w a) (cutW w b)).2 <;> rfl
    · rfl

/-- what Do makes of two spans has what it makes of numbers of them -/
theorem do_holds (op : Int) (w : Bool) (a b : SSpan) (ha : OkS a) (hb : OkS b) {x y : Nat} (hx : a.lo ≤ x ∧ (x : Int) ≤ a.hi) (hy : b.lo ≤ y ∧ (y : Int) ≤ b.hi) :
    ∃ l u : Nat, F_sDo op w a b = nS l u ∧ l ≤ u ∧ u < Mw w ∧ ((F_aDo op w (x : Int) (y : Int)).2 = true → (l : Int) ≤ (F_aDo op w (x : Int) (y : Int)).1 ∧ (F_aDo op w (x : Int) (y : Int)).1 ≤ (u : Int)) := by
  obtain ⟨al, ah, rfl, a1, a2⟩ := nS_of ha
  obtain ⟨bl, bh, rfl, b1, b2⟩ := nS_of hb
  have hx : al ≤ x ∧ x ≤ ah := by dsimp only at hx; omega
  have hy : bl ≤ y ∧ y ≤ bh := by dsimp only at hy; omega
  rw [sDo_tail op w _ _ ha hb]
  obtain ⟨cl, ch, ec, c1, c2, c3, _, _, _⟩ := cut_ok w a1 a2
  obtain ⟨dl, dh, ed, d1, d2, d3, _, _, _⟩ := cut_ok w b1 b2
  have hM := Mw_le w
  have hc := c3 x hx.1 hx.2
  have hd := d3 y hy.1 hy.2
  rw [ec, ed, ← aDo_lw op w x y]
  generalize lw w x = X at *
  generalize lw w y = Y at *
  have X6 : X < 18446744073709551616 := by omega
  have Y6 : Y < 18446744073709551616 := by omega
  have C6 : cl < 18446744073709551616 := by omega
  have D6 : dl < 18446744073709551616 := by omega
  show ∃ l u : Nat, (bif (F_aDo op w (cl : Int) (dl : Int)).2 then _ else _) = nS l u ∧ _
  rw [ok_same op w C6 D6 X6 Y6]
  obtain ⟨r, hr, hrM⟩ := aDo_nat op w X6 Y6
  have allC : ∃ l u : Nat, cutW w F_sAll = nS l u ∧ l ≤ u ∧ u < Mw w := by
    obtain ⟨l, u, e, k1, k2, _⟩ := cut_ok w (l := 0) (u := 18446744073709551615) (by decide) (by decide)
    exact ⟨l, u, e, k1, k2⟩
  cases ho : (F_aDo op w (X : Int) (Y : Int)).2
  · obtain ⟨l, u, e, k1, k2⟩ := allC
    exact ⟨l, u, e, k1, k2, fun h => by cases h⟩
  · rw [cond_true]
    have hT := tail_holds op w hc hd c2 d2 hr hrM
    by_cases hone : (cl = ch ∧ dl = dh)
    · have o1 : F_one (nS cl ch) = true := beq_iff_eq.2 (by rw [hone.1])
      have o2 : F_one (nS dl dh) = true := beq_iff_eq.2 (by rw [hone.2])
      have e1 : X = cl := by omega
      have e2 : Y = dl := by omega
      rw [o1, o2, Bool.and_self, cond_true]
      show ∃ l u : Nat, F_sOne (F_aDo op w (cl : Int) (dl : Int)).1 = nS l u ∧ _
      rw [← e1, ← e2, hr]
      exact ⟨r, r, rfl, Nat.le_refl _, hrM, fun _ => ⟨Int.le_refl _, Int.le_refl _⟩⟩
    · have o : (F_one (nS cl ch) && F_one (nS dl dh)) = false := by
        rw [Bool.and_eq_false_iff]
        rcases Nat.lt_or_ge cl ch with k | k
        · exact .inl (beq_eq_false_iff_ne.2 (by show (cl : Int) ≠ (ch : Int); omega))
        · exact .inr (beq_eq_false_iff_ne.2 (by show (dl : Int) ≠ (dh : Int); omega))
      rw [o, cond_false]
      obtain ⟨l, u, e, k1, k2, k3⟩ := hT
      obtain ⟨l', u', e', k1', k2', _, k4', _⟩ := cut_ok w k1 k2
      have := k4' r hrM k3
      rw [e, e', hr]
      exact ⟨l', u', rfl, k1', k2', fun _ => by omega⟩

theorem SpanHolds_true (op : Int) (w : Bool) (f : SFour) (m n : Int) (hf : Ok4 f) (hm : 0 ≤ m ∧ m < 18446744073709551616) (hn : 0 ≤ n ∧ n < 18446744073709551616) : F_SpanHolds op w f m n = true := by
  have ha := okL1 hf
  have hb := okL2 hf
  unfold F_SpanHolds
  generalize (F_lspans f).1 = a at *
  generalize (F_lspans f).2 = b at *
  have hx := lin_in ha hm
  have hy := lin_in hb hn
  have ha' := ha
  have hb' := hb
  unfold OkS at ha' hb'
  obtain ⟨X, hX⟩ : ∃ X : Nat, F_lin a m = (X : Int) := ⟨(F_lin a m).toNat, by omega⟩
  obtain ⟨Y, hY⟩ : ∃ Y : Nat, F_lin b n = (Y : Int) := ⟨(F_lin b n).toNat, by omega⟩
  rw [hX] at hx
  rw [hY] at hy
  obtain ⟨l, u, e, k1, k2, k3⟩ := do_holds op w a b ha hb hx hy
  rw [hX, hY, lshown_true, e, sHas_eq]
  have r : F_sRight (nS l u) = true := decide_eq_true (by show (l : Int) ≤ (u : Int); omega)
  rw [r]
  have last : (bif w then true else (((shrI .u64 (nS l u).hi 32) : Int) == 0)) = true := by
    cases w
    · have k2 : u < 4294967296 := k2
      show (shrI .u64 (u : Int) 32 == 0) = true
      rw [show (32 : Int) = ((32 : Nat) : Int) from rfl, shr64 (by decide), Nat.div_eq_of_lt k2]; rfl
    · rfl
  rw [last]
  cases ho : (F_aDo op w (X : Int) (Y : Int)).2
  · rfl
  · rw [decide_eq_true (k3 ho)]; rfl
end Dd
