/- What follows what. -/
import Derived.Test.YthjljdbelnakfaaH18
namespace Dd
open Go Go.RowKit Go.Proofs
set_option linter.unusedVariables false
set_option linter.unusedSimpArgs false

def AllOk (n : Nat) (g : Nat → SInsn) : Prop := ∀ a, a < n → OkI (g a)
theorem AllOk.off {n : Nat} {g : Nat → SInsn} (h : AllOk n g) : OffP n g := fun a ha => ⟨(h a ha).off0, (h a ha).off1⟩

theorem or_false3 {a b c d e f : Bool} (h : (a || b || c || d || e || f) = false) : a = false ∧ b = false ∧ c = false ∧ d = false ∧ e = false ∧ f = false := by
  cases a <;> cases b <;> cases c <;> cases d <;> cases e <;> cases f <;> simp_all

namespace Okay
variable {n : Nat} {g : Nat → SInsn}
theorem pos (h : Okay n g) : 0 < n := h.enc.1
theorem le (h : Okay n g) : n ≤ 512 := h.enc.2.1
theorem known (h : Okay n g) {a : Nat} (ha : a < n) (hh : halfS g a = false) : F_Known (g a) = true := (h.enc.2.2 a ha hh).1
theorem second (h : Okay n g) {a : Nat} (ha : a < n) (hh : halfS g a = true) : (g a).op = 0 := by
  cases a with
  | zero => cases hh
  | succ a =>
    have h1 : halfS g a = false := by
      cases e : halfS g a
      · rfl
      · rw [halfS, e] at hh; cases hh
    have h2 : (g a).op = 24 := by rw [half_next h1] at hh; simpa using hh
    exact ((h.enc.2.2 a (by omega) h1).2 h2).2.1
theorem wrong (h : Okay n g) {a : Nat} (ha : a < n) (hh : halfS g a = false ∨ a + 1 = n) : wrongS n g a = false := by
  have := h.good a ha
  unfold badS at this
  rcases hh with hh | hh
  · rw [hh] at this; simpa using this
  · rw [decide_eq_true hh] at this; simpa using this
theorem last (h : Okay n g) {a : Nat} (ha : a + 1 = n) : F_exits (g a) = true := by
  obtain ⟨_, _, _, _, _, h6⟩ := or_false3 (h.wrong (a := a) (by omega) (.inr ha))
  rw [decide_eq_true ha] at h6
  simpa using h6
theorem last_half (h : Okay n g) {a : Nat} (ha : a + 1 = n) : halfS g a = false := by
  cases e : halfS g a
  · rfl
  · have := ok_second (h.second (by omega) e); rw [h.last ha] at this; cases this
theorem next (h : Okay n g) {a : Nat} (ha : a < n) (hx : F_exits (g a) = false) : a + 1 < n := by
  by_cases e : a + 1 = n
  · rw [h.last e] at hx; cases hx
  · omega
theorem wide (h : Okay n g) {a : Nat} (ha : a < n) (hh : halfS g a = false) (hw : (g a).op = 24) : a + 2 < n ∧ halfS g (a + 2) = false := by
  have h1 : halfS g (a + 1) = true := by rw [half_next hh]; simp [hw]
  have h2 := ((h.enc.2.2 a ha hh).2 hw).1
  have h3 := h.next h2 (ok_second (h.second h2 h1))
  exact ⟨h3, half_after h1⟩
theorem jump (h : Okay n g) {a : Nat} (ha : a < n) (hh : halfS g a = false) (hj : F_jumps (g a) = true) : 0 ≤ (g a).off ∧ a + 1 + (g a).off.toNat < n ∧ halfS g (a + 1 + (g a).off.toNat) = false := by
  obtain ⟨_, _, _, _, h5, _⟩ := or_false3 (h.wrong (a := a) ha (.inl hh))
  rw [hj, Bool.true_and] at h5
  simp only [Bool.or_eq_false_iff, decide_eq_false_iff_not] at h5
  exact ⟨by omega, by omega, h5.2⟩
end Okay

theorem compact2 (x y : Int) : Lib.compact [x, y] = if x = y then [x] else [x, y] := by
  unfold Lib.compact
  show Lib.compactUpTo [x, y].toArray 2 = _
  rw [Lib.compactUpTo_succ, Lib.compactUpTo_succ]
  have k0 : Lib.keeps [x, y].toArray 0 = true := by simp [Lib.keeps]
  have e0 : Lib.compactUpTo [x, y].toArray 0 = [] := rfl
  rw [k0, e0]
  by_cases h : x = y
  · have k1 : Lib.keeps [x, y].toArray 1 = false := Lib.keeps_neg (by omega) (by simp [h])
    rw [k1]; simp [h]
  · have k1 : Lib.keeps [x, y].toArray 1 = true := Lib.keeps_pos (by simp; exact fun e => h e.symm)
    rw [k1]; simp [h]

theorem zs2 (x y : Int) : zsOf 2 (intG (updF (updF (fun _ => (V.int .i64 0)) 0 (V.int .i64 x)) 1 (V.int .i64 y))) = [x, y] := rfl
theorem cmp2_eq {x : Int} : cmpN 2 (intG (updF (updF (fun _ => (V.int .i64 0)) 0 (V.int .i64 x)) 1 (V.int .i64 x))) = 1 ∧ cmpF 2 (intG (updF (updF (fun _ => (V.int .i64 0)) 0 (V.int .i64 x)) 1 (V.int .i64 x))) 0 = x := by
  unfold cmpN cmpF cmpL
  rw [zs2, compact2, if_pos rfl]; exact ⟨rfl, rfl⟩
theorem cmp2_ne {x y : Int} (h : x ≠ y) : cmpN 2 (intG (updF (updF (fun _ => (V.int .i64 0)) 0 (V.int .i64 x)) 1 (V.int .i64 y))) = 2 ∧ cmpF 2 (intG (updF (updF (fun _ => (V.int .i64 0)) 0 (V.int .i64 x)) 1 (V.int .i64 y))) 0 = x ∧
    cmpF 2 (intG (updF (updF (fun _ => (V.int .i64 0)) 0 (V.int .i64 x)) 1 (V.int .i64 y))) 1 = y := by
  unfold cmpN cmpF cmpL
  rw [zs2, compact2, if_neg h]; exact ⟨rfl, rfl, rfl⟩

/-- what may come next -/
inductive Next (g : Nat → SInsn) (a : Nat) (F : Nat × (Nat → Int)) : Prop
  | ends (h : F_exits (g a) = true) (k : F.1 = 0)
  | wide (h : F_exits (g a) = false) (w : (g a).op = 24) (k : F.1 = 1) (v : F.2 0 = (a : Int) + 2)
  | ja (h : F_exits (g a) = false) (w : (g a).op ≠ 24) (j : F_jumps (g a) = true) (o : (g a).op = 5) (k : F.1 = 1) (v : F.2 0 = (a : Int) + 1 + (g a).off)
  | one (h : F_exits (g a) = false) (w : (g a).op ≠ 24) (j : F_jumps (g a) = true) (o : (g a).op ≠ 5) (z : (g a).off = 0) (k : F.1 = 1) (v : F.2 0 = (a : Int) + 1)
  | two (h : F_exits (g a) = false) (w : (g a).op ≠ 24) (j : F_jumps (g a) = true) (o : (g a).op ≠ 5) (z : (g a).off ≠ 0) (k : F.1 = 2) (v : F.2 0 = (a : Int) + 1) (u : F.2 1 = (a : Int) + 1 + (g a).off)
  | on (h : F_exits (g a) = false) (w : (g a).op ≠ 24) (j : F_jumps (g a) = false) (k : F.1 = 1) (v : F.2 0 = (a : Int) + 1)

theorem Follow_not {n : Nat} {g : Nat → SInsn} {at' : Int} (h : (F_Right n g).2 ≠ 0) : F_Follow n g at' = (0, fun _ => default) := by
  unfold F_Follow
  rw [show ((F_Right n g).2 != 0) = true by simpa using h, cond_true]
theorem Follow_out {n : Nat} {g : Nat → SInsn} {at' : Int} (h : at' < 0 ∨ (n : Int) ≤ at') : (F_Follow n g at').1 = 0 := by
  unfold F_Follow
  cases (F_Right n g).2 != 0
  · rw [cond_false]
    by_cases h1 : at' < 0
    · rw [decide_eq_true h1, cond_true]
    · rw [decide_eq_false h1, cond_false, decide_eq_true (show at' ≥ ((n : Nat) : Int) by omega), cond_true]
  · rw [cond_true]
theorem Follow_half {n : Nat} {g : Nat → SInsn} (hn : n ≤ 1000000) {a : Nat} (ha : a < n) (hh : halfS g a = true) : (F_Follow n g (a : Int)).1 = 0 := by
  unfold F_Follow
  have t : ((a : Int)).toNat = a := rfl
  cases (F_Right n g).2 != 0
  · rw [cond_false, decide_eq_false (show ¬ (a : Int) < 0 by omega), cond_false, decide_eq_false (show ¬ (a : Int) ≥ ((n : Nat) : Int) by omega), cond_false, t, halves_at hn ha, hh, cond_true]
  · rw [cond_true]

theorem Follow_next {n : Nat} {g : Nat → SInsn} (hk : AllOk n g) (h : Okay n g) {a : Nat} (ha : a < n) (hh : halfS g a = false) : Next g a (F_Follow n g (a : Int)) := by
  have hn := h.le
  have t : ((a : Int)).toNat = a := rfl
  have hok := hk a ha
  have h0 := hok.off0
  have h1 := hok.off1
  have e : F_Follow n g (a : Int) = bif F_exits (g a) then ((0 : Nat), fun _ => default) else bif F_Wide (g a) then ((1 : Nat), updF (fun _ => 0) 0 ((a : Int) + 2)) else
      bif F_class (g a) == 5 && F_what (g a) == 0 then ((1 : Nat), updF (fun _ => 0) 0 ((a : Int) + 1 + (g a).off)) else
      bif F_jumps (g a) then (cmpN 2 (intG (updF (updF (fun _ => (V.int .i64 0)) 0 (V.int .i64 ((a : Int) + 1))) 1 (V.int .i64 ((a : Int) + 1 + (g a).off)))), cmpF 2 (intG (updF (updF (fun _ => (V.int .i64 0)) 0 (V.int .i64 ((a : Int) + 1))) 1 (V.int .i64 ((a : Int) + 1 + (g a).off))))) else
      ((1 : Nat), updF (fun _ => 0) 0 ((a : Int) + 1)) := by
    unfold F_Follow
    rw [h.right hk.off, show (((0 : Int), (0 : Int)).2 != 0) = false from rfl, cond_false, decide_eq_false (show ¬ (a : Int) < 0 by omega), cond_false, decide_eq_false (show ¬ (a : Int) ≥ ((n : Nat) : Int) by omega), cond_false, t, halves_at (by omega) ha, hh, cond_false]
    rw [i64_id (k := (a : Int) + 1) (by omega) (by omega), i64_id (k := (a : Int) + 2) (by omega) (by omega), i64_id (k := (g a).off) (by omega) (by omega), i64_id (k := (a : Int) + 1 + (g a).off) (by omega) (by omega)]
    cases F_class (g a) == 5 <;> cases F_what (g a) == 0 <;> rfl
  rw [e]
  have hkn := h.known ha hh
  cases hx : F_exits (g a)
  · rw [cond_false]
    by_cases hw : (g a).op = 24
    · rw [F_Wide_eq, beq_iff_eq.2 hw, cond_true]; exact .wide hx hw rfl rfl
    · rw [F_Wide_eq, beq_eq_false_iff_ne.2 hw, cond_false, ok_ja hok hkn]
      by_cases ho : (g a).op = 5
      · rw [beq_iff_eq.2 ho, cond_true]
        exact .ja hx hw (ok_ja_jumps hok (by rw [ok_ja hok hkn]; exact beq_iff_eq.2 ho)) ho rfl rfl
      · rw [beq_eq_false_iff_ne.2 ho, cond_false]
        cases hj : F_jumps (g a)
        · rw [cond_false]; exact .on hx hw hj rfl rfl
        · rw [cond_true]
          by_cases hz : (g a).off = 0
          · rw [hz, Int.add_zero]
            obtain ⟨k1, k2⟩ := @cmp2_eq ((a : Int) + 1)
            exact .one hx hw hj ho hz k1 k2
          · obtain ⟨k1, k2, k3⟩ := @cmp2_ne ((a : Int) + 1) ((a : Int) + 1 + (g a).off) (by omega)
            exact .two hx hw hj ho hz k1 k2 k3
  · rw [cond_true]; exact .ends hx rfl

theorem L_Half_eq {n0 : Nat} {g : Nat → SInsn} {m : Nat} (hm : m ≤ 1000000) : ∀ (fuel s : Nat), s ≤ m → m < s + fuel → L_Half_0 fuel n0 g (m : Int) (halfS g s) (s : Int) = halfS g m := by
  intro fuel
  induction fuel with
  | zero => intro s h1 h2; omega
  | succ fuel ih =>
    intro s h1 h2
    rw [L_Half_0]
    by_cases hs : s < m
    · rw [decide_eq_true (show (s : Int) < (m : Int) by omega), cond_true, i64_id (k := (s : Int) + 1) (by omega) (by omega)]
      have t : ((s : Int)).toNat = s := rfl
      rw [t]
      have := ih (s + 1) (by omega) (by omega)
      cases hh : halfS g s
      · rw [Bool.not_false, cond_true, ← half_next hh]; exact this
      · rw [Bool.not_true, cond_false, ← half_after hh]; exact this
    · obtain rfl : s = m := by omega
      rw [decide_eq_false (show ¬ (s : Int) < (s : Int) by omega), cond_false]
theorem Half_eq {n0 : Nat} {g : Nat → SInsn} {m : Nat} (hm : m ≤ 1000000) : F_Half n0 g (m : Int) = halfS g m := by
  unfold F_Half
  exact L_Half_eq hm _ 0 (by omega) (by omega)

theorem sort1 (x : Int) (f : Nat → Int) (h : f 0 = x) : sortF 1 f 0 = x := by
  have : zsOf 1 f = [x] := by simp [zsOf, h]
  simp [sortF, sortL, this]
theorem cmp1 (x : Int) (f : Nat → Int) (h : f 0 = x) : cmpN 1 f = 1 ∧ cmpF 1 f 0 = x := by
  have e : zsOf 1 f = [x] := by simp [zsOf, h]
  have : Lib.compact [x] = [x] := by
    show Lib.compactUpTo [x].toArray 1 = _
    rw [Lib.compactUpTo_succ]; rfl
  simp [cmpN, cmpF, cmpL, e, this]

end Dd
namespace Dd
open Go Go.RowKit Go.Proofs
set_option linter.unusedVariables false
theorem mn200 (n : Nat) : (mnI ((n : Nat) : Int) 200).toNat - 0 = min n 200 := by unfold mnI; split <;> omega
theorem mn100 (n : Nat) : (mnI ((n : Nat) : Int) 100).toNat - 0 = min n 100 := by unfold mnI; split <;> omega
theorem mn60 (n : Nat) : (mnI ((n : Nat) : Int) 60).toNat - 0 = min n 60 := by unfold mnI; split <;> omega
theorem and_i64_1 (a : Int) : andI .i64 a 1 = a % 2 := and_mask .i64 1 (by decide) a (fun x h1 h2 => IntWalk.i64_in _ (by omega))
theorem pick_ok (a : Int) (m : Nat) (h : ((m : Nat) : Int) ≠ 0) : 0 ≤ Int.tmod (andI .i64 a 1) ((m : Nat) : Int) ∧ Int.tmod (andI .i64 a 1) ((m : Nat) : Int) < ((m : Nat) : Int) := by
  rw [and_i64_1, tmod_if, if_pos (by omega)]
  exact ⟨Int.emod_nonneg _ (by omega), Int.emod_lt_of_pos _ (by omega)⟩
theorem AllOk.pre {n m : Nat} {g : Nat → SInsn} (h : AllOk n g) (hm : m ≤ n) : ∀ i, i < m → -32768 ≤ (g i).off ∧ (g i).off ≤ 32767 := fun i hi => h.off i (by omega)
end Dd
