/- States: what their loops make; joins. -/
import Derived.Test.YthffcmecjfnokaaR12
import Derived.Test.YthffcmecjfnokaaRP3
namespace Dd
open Go Go.RowKit Go.Proofs
set_option linter.unusedVariables false
set_option linter.unusedSimpArgs false

theorem i64_succ (s : Int) (h0 : 0 ≤ s) (h1 : s ≤ 1000000) : IntKind.i64.wrap (s + 1) = s + 1 := by rw [wrap_i64]; omega

theorem updF_at {α : Type} (f : Nat → α) (i : Nat) (v : α) (j : Nat) : updF f i v j = if j = i then v else f j := by
  unfold updF
  by_cases h : j = i
  · subst h; simp
  · have : Nat.beq j i = false := by
      cases hb : Nat.beq j i with
      | false => rfl
      | true => exact absurd (Nat.eq_of_beq_eq_true hb) h
    simp [this, h]

theorem sjoin0 (a0 a1 : SState) : ∀ (n : Nat) (s : Int) (x : Nat → SReg), 0 ≤ s → s ≤ 11 → 11 < s + n →
    ∃ x', L_SJoin_0 n a0 a1 s x = L_SJoin_1 513 a1 x' 0 a0.stack ∧ ∀ i : Nat, i < 11 → x' i = if s ≤ (i : Int) then F_Join (x i) (a1.regs i) else x i
  | 0, s, x, h0, h1, h2 => by omega
  | n + 1, s, x, h0, h1, h2 => by
    unfold L_SJoin_0
    by_cases hs : s < 11
    · rw [cond_t (decide_eq_true hs), i64_succ s h0 (by omega)]
      obtain ⟨x', e, hx⟩ := sjoin0 a0 a1 n (s + 1) _ (by omega) (by omega) (by omega)
      refine ⟨x', e, fun i hi => ?_⟩
      rw [hx i hi, updF_at]
      by_cases e1 : i = s.toNat
      · subst e1
        rw [if_neg (by omega), if_pos rfl, if_pos (by omega)]
      · rw [if_neg e1]
        by_cases e2 : s ≤ (i : Int)
        · rw [if_pos e2, if_pos (by omega)]
        · rw [if_neg e2, if_neg (by omega)]
    · rw [cond_f (decide_eq_false hs)]
      exact ⟨x, rfl, fun i hi => by rw [if_neg (by omega)]⟩
theorem sjoin1 (a1 : SState) (r : Nat → SReg) : ∀ (n : Nat) (s : Int) (x : Nat → Bool), 0 ≤ s → s ≤ 512 → 512 < s + n →
    ∃ x', L_SJoin_1 n a1 r s x = ⟨r, x'⟩ ∧ ∀ i : Nat, i < 512 → x' i = if s ≤ (i : Int) then (x i && a1.stack i) else x i
  | 0, s, x, h0, h1, h2 => by omega
  | n + 1, s, x, h0, h1, h2 => by
    unfold L_SJoin_1
    by_cases hs : s < 512
    · rw [cond_t (decide_eq_true hs), i64_succ s h0 (by omega)]
      have key : ∀ v, v = (x s.toNat && a1.stack s.toNat) → ∃ x', L_SJoin_1 n a1 r (s + 1) (updF x s.toNat v) = ⟨r, x'⟩ ∧ ∀ i : Nat, i < 512 → x' i = if s ≤ (i : Int) then (x i && a1.stack i) else x i := by
        intro v hv
        obtain ⟨x', e, hx⟩ := sjoin1 a1 r n (s + 1) (updF x s.toNat v) (by omega) (by omega) (by omega)
        refine ⟨x', e, fun i hi => ?_⟩
        rw [hx i hi, updF_at]
        by_cases e1 : i = s.toNat
        · subst e1
          rw [if_neg (by omega), if_pos rfl, if_pos (by omega), hv]
        · rw [if_neg e1]
          by_cases e2 : s ≤ (i : Int)
          · rw [if_pos e2, if_pos (by omega)]
          · rw [if_neg e2, if_neg (by omega)]
      cases hx : x s.toNat
      · rw [cond_false]; exact key _ (by rw [hx]; rfl)
      · rw [cond_true]; exact key _ (by rw [hx]; rfl)
    · rw [cond_f (decide_eq_false hs)]
      exact ⟨x, rfl, fun i hi => by rw [if_neg (by omega)]⟩
theorem sjoin_at (a b : SState) : (∀ i : Nat, i < 11 → (F_SJoin a b).regs i = F_Join (a.regs i) (b.regs i)) ∧ (∀ i : Nat, i < 512 → (F_SJoin a b).stack i = (a.stack i && b.stack i)) := by
  obtain ⟨x, e, hx⟩ := sjoin0 a b 12 0 a.regs (by omega) (by omega) (by omega)
  obtain ⟨y, e', hy⟩ := sjoin1 b x 513 0 a.stack (by omega) (by omega) (by omega)
  have : F_SJoin a b = ⟨x, y⟩ := by unfold F_SJoin; rw [e, e']
  rw [this]
  exact ⟨fun i hi => (hx i hi).trans (if_pos (by omega)), fun i hi => (hy i hi).trans (if_pos (by omega))⟩

/-! Try# equality of states -/
theorem eq29_iff (a b : SReg) : veqB (v29 a) (v29 b) = true ↔ a = b := by
  obtain ⟨k, ⟨p, q⟩, l, h, m⟩ := a
  obtain ⟨k', ⟨p', q'⟩, l', h', m'⟩ := b
  simp [v29, v27, veqB, veqsB]
structure SameS (a b : SState) : Prop where
  regs : ∀ i : Nat, i < 11 → a.regs i = b.regs i
  stack : ∀ i : Nat, i < 512 → a.stack i = b.stack i
theorem eq53_iff (a b : SState) : veqB (v53 a) (v53 b) = true ↔ SameS a b := by
  simp only [v53, v50, v51, veqB, veqsB, Bool.and_true, Bool.and_eq_true, List.all_eq_true, List.mem_range, eq29_iff, beq_iff_eq]
  exact ⟨fun h => ⟨h.1, h.2⟩, fun h => ⟨h.1, h.2⟩⟩

/-! Try# registers -/
structure Good (r : SReg) : Prop where
  num : r.kind ≠ 1 → r.num = ⟨0, 0⟩
  ptr : F_rPointer r.kind = false → r.lo = 0 ∧ r.hi = 0
  map : r.kind = 1 ∨ r.kind = 0 → r.map = 0
def zeroR : SReg := ⟨0, ⟨0, 0⟩, 0, 0, 0⟩
theorem good_zero : Good zeroR := ⟨fun _ => rfl, fun _ => ⟨rfl, rfl⟩, fun _ => rfl⟩
def RJ (r t : SReg) : SReg := if r.kind = t.kind ∧ r.map = t.map then ⟨r.kind, ⟨mnI r.num.lo t.num.lo, mxI r.num.hi t.num.hi⟩, mnI r.lo t.lo, mxI r.hi t.hi, r.map⟩ else zeroR
theorem mn_self (a : Int) : mnI a a = a := by simp [mnI]
theorem mx_self (a : Int) : mxI a a = a := by simp [mxI]
theorem join_nf {r t : SReg} (hr : Good r) (ht : Good t) : F_Join r t = RJ r t := by
  unfold F_Join RJ
  by_cases hk : r.kind = t.kind
  · have e1 : (r.kind != t.kind) = false := by simp [hk]
    rw [cond_f e1]
    by_cases hm : r.map = t.map
    · have e2 : (r.map != t.map) = false := by simp [hm]
      rw [cond_f e2, if_pos ⟨hk, hm⟩]
      by_cases h1 : r.kind = 1
      · have e3 : (r.kind == 1) = true := by simp [h1]
        rw [cond_t e3]
        have hp : F_rPointer r.kind = false := by rw [h1]; rfl
        obtain ⟨l1, l2⟩ := hr.ptr hp
        obtain ⟨l3, l4⟩ := ht.ptr (hk ▸ hp)
        have m1 := hr.map (.inl h1)
        rw [l1, l2, l3, l4, m1, mn_self, mx_self, h1]
        rfl
      · have e3 : (r.kind == 1) = false := by simp [h1]
        rw [cond_f e3]
        have n1 := hr.num h1
        have n2 := ht.num (hk ▸ h1)
        rw [pointer_eq]
        cases hp : F_rPointer r.kind
        · obtain ⟨l1, l2⟩ := hr.ptr hp
          obtain ⟨l3, l4⟩ := ht.ptr (hk ▸ hp)
          rw [cond_false, l1, l2, l3, l4, n1, n2]
          obtain ⟨k, ⟨p, q⟩, l, h, m⟩ := r
          simp only [SSpan.mk.injEq] at n1
          simp only at l1 l2
          obtain ⟨rfl, rfl⟩ := n1
          subst l1 l2
          rfl
        · rw [cond_true, n1, n2]
          rfl
    · have e2 : (r.map != t.map) = true := by simp [hm]
      rw [cond_t e2, if_neg (fun h => hm h.2)]; rfl
  · have e1 : (r.kind != t.kind) = true := by simp [hk]
    rw [cond_t e1, if_neg (fun h => hk h.1)]; rfl
theorem good_join {r t : SReg} (hr : Good r) (ht : Good t) : Good (RJ r t) := by
  unfold RJ
  split
  · rename_i h
    refine ⟨fun h1 => ?_, fun hp => ?_, fun hm => hr.map hm⟩
    · have n1 := hr.num h1
      have n2 := ht.num (h.1 ▸ h1)
      simp only [n1, n2, mn_self, mx_self]
    · obtain ⟨l1, l2⟩ := hr.ptr hp
      obtain ⟨l3, l4⟩ := ht.ptr (h.1 ▸ hp)
      simp only [l1, l2, l3, l4, mn_self, mx_self]; exact ⟨trivial, trivial⟩
  · exact good_zero
theorem good_is_zero {r : SReg} (hr : Good r) (h : r.kind = 0) : r = zeroR := by
  have n1 := hr.num (by omega)
  have l := hr.ptr (by rw [h]; rfl)
  have m := hr.map (.inr h)
  obtain ⟨k, ⟨p, q⟩, l', h', m'⟩ := r
  simp only [SSpan.mk.injEq] at n1
  simp only at l m h
  obtain ⟨rfl, rfl⟩ := n1
  obtain ⟨rfl, rfl⟩ := l
  subst m h; rfl
theorem rj_self (r : SReg) : RJ r r = r := by unfold RJ; rw [if_pos ⟨rfl, rfl⟩, mn_self, mx_self, mn_self, mx_self]
theorem mn_comm (a b : Int) : mnI a b = mnI b a := by simp only [mnI]; split <;> split <;> omega
theorem mx_comm (a b : Int) : mxI a b = mxI b a := by simp only [mxI]; split <;> split <;> omega
theorem mn_assoc (a b c : Int) : mnI (mnI a b) c = mnI a (mnI b c) := by simp only [mnI]; repeat' split <;> try omega
theorem mx_assoc (a b c : Int) : mxI (mxI a b) c = mxI a (mxI b c) := by simp only [mxI]; repeat' split <;> try omega
theorem rj_comm (r t : SReg) : RJ r t = RJ t r := by
  unfold RJ
  by_cases h : r.kind = t.kind ∧ r.map = t.map
  · rw [if_pos h, if_pos ⟨h.1.symm, h.2.symm⟩, mn_comm r.num.lo, mx_comm r.num.hi, mn_comm r.lo, mx_comm r.hi, h.1, h.2]
  · rw [if_neg h, if_neg (fun k => h ⟨k.1.symm, k.2.symm⟩)]
theorem rj_zero {r : SReg} (hr : Good r) : RJ zeroR r = zeroR := by
  by_cases h : zeroR.kind = r.kind ∧ zeroR.map = r.map
  · have : r = zeroR := good_is_zero hr h.1.symm
    rw [this, rj_self]
  · unfold RJ; rw [if_neg h]
theorem rj_assoc {a b c : SReg} (ha : Good a) (hb : Good b) (hc : Good c) : RJ (RJ a b) c = RJ a (RJ b c) := by
  by_cases h1 : a.kind = b.kind ∧ a.map = b.map
  · by_cases h2 : b.kind = c.kind ∧ b.map = c.map
    · have e1 : RJ a b = ⟨a.kind, ⟨mnI a.num.lo b.num.lo, mxI a.num.hi b.num.hi⟩, mnI a.lo b.lo, mxI a.hi b.hi, a.map⟩ := if_pos h1
      have e2 : RJ b c = ⟨b.kind, ⟨mnI b.num.lo c.num.lo, mxI b.num.hi c.num.hi⟩, mnI b.lo c.lo, mxI b.hi c.hi, b.map⟩ := if_pos h2
      rw [e1, e2]
      unfold RJ
      rw [if_pos ⟨h1.1.trans h2.1, h1.2.trans h2.2⟩, if_pos h1]
      simp only [mn_assoc, mx_assoc]
    · have e2 : RJ b c = zeroR := if_neg h2
      have e3 : RJ (RJ a b) c = zeroR := by
        have e1 : RJ a b = ⟨a.kind, ⟨mnI a.num.lo b.num.lo, mxI a.num.hi b.num.hi⟩, mnI a.lo b.lo, mxI a.hi b.hi, a.map⟩ := if_pos h1
        rw [e1]
        exact if_neg (fun k => h2 ⟨h1.1.symm.trans k.1, h1.2.symm.trans k.2⟩)
      rw [e2, e3, rj_comm, rj_zero ha]
  · have e1 : RJ a b = zeroR := if_neg h1
    rw [e1, rj_zero hc]
    by_cases h2 : b.kind = c.kind ∧ b.map = c.map
    · have e2 : RJ b c = ⟨b.kind, ⟨mnI b.num.lo c.num.lo, mxI b.num.hi c.num.hi⟩, mnI b.lo c.lo, mxI b.hi c.hi, b.map⟩ := if_pos h2
      rw [e2]
      exact (if_neg h1).symm
    · have e2 : RJ b c = zeroR := if_neg h2
      rw [e2, rj_comm, rj_zero ha]

end Dd
