/- All places to which jumps lead: rising, each once. -/
import Derived.Test.YthjljdbelnakfaaH22
namespace Dd
open Go Go.RowKit Go.Proofs
set_option linter.unusedVariables false
set_option linter.unusedSimpArgs false

theorem keeps_pos' {d : Array Int} {j : Nat} : Lib.keeps d j = true ↔ j = 0 ∨ d[j]! ≠ d[j - 1]! := by simp [Lib.keeps]

theorem compact_pairwise {zs : List Int} (h : ∀ i j, i < j → j < zs.length → zs.toArray[i]! ≤ zs.toArray[j]!) : (Lib.compact zs).Pairwise (· < ·) := by
  unfold Lib.compact Lib.compactUpTo
  rw [List.pairwise_map, List.pairwise_filter]
  refine (List.pairwise_lt_range (n := zs.length)).imp_of_mem (fun {a b} ha hb hab _ hkb => ?_)
  have hb' : b < zs.length := List.mem_range.1 hb
  rcases keeps_pos'.1 hkb with h0 | hne
  · omega
  · have h1 : zs.toArray[b - 1]! ≤ zs.toArray[b]! := h (b - 1) b (by omega) hb'
    have h2 : zs.toArray[a]! ≤ zs.toArray[b - 1]! := by
      by_cases e : a = b - 1
      · rw [e]; exact Int.le_refl _
      · exact h a (b - 1) (by omega) (by omega)
    omega

theorem compact_mem {zs : List Int} {x : Int} : x ∈ Lib.compact zs ↔ x ∈ zs := by
  unfold Lib.compact Lib.compactUpTo
  rw [List.mem_map]
  constructor
  · rintro ⟨j, hj, rfl⟩
    have hj := List.mem_range.1 (List.mem_filter.1 hj).1
    rw [getElem!_pos _ j (by simpa using hj)]; simp
  · intro hx
    obtain ⟨j, hj, rfl⟩ := List.mem_iff_getElem.1 hx
    have key : ∀ j, j < zs.length → ∃ k, k < zs.length ∧ Lib.keeps zs.toArray k = true ∧ zs.toArray[k]! = zs.toArray[j]! := by
      intro j
      induction j with
      | zero => intro h; exact ⟨0, h, keeps_pos'.2 (.inl rfl), rfl⟩
      | succ j ih =>
        intro h
        by_cases e : zs.toArray[j + 1]! = zs.toArray[j]!
        · obtain ⟨k, k1, k2, k3⟩ := ih (by omega)
          exact ⟨k, k1, k2, by rw [k3, e]⟩
        · exact ⟨j + 1, h, keeps_pos'.2 (.inr e), rfl⟩
    obtain ⟨k, k1, k2, k3⟩ := key j hj
    refine ⟨k, List.mem_filter.2 ⟨List.mem_range.2 k1, k2⟩, ?_⟩
    rw [k3, getElem!_pos _ j (by simpa using hj)]; simp

theorem sortL_len (n : Nat) (g : Nat → Int) : (sortL n g).length = n := by simp [sortL, zsOf_len]
theorem sortL_mem {n : Nat} {g : Nat → Int} {x : Int} : x ∈ sortL n g ↔ ∃ i, i < n ∧ g i = x := by
  unfold sortL
  rw [(List.mergeSort_perm _ _).mem_iff]
  simp [zsOf]
theorem sortL_le {n : Nat} {g : Nat → Int} : ∀ i j, i < j → j < (sortL n g).length → (sortL n g).toArray[i]! ≤ (sortL n g).toArray[j]! := by
  have h := List.pairwise_mergeSort (le := fun x y : Int => decide (x ≤ y)) (fun a b c h1 h2 => by simp only [decide_eq_true_eq] at *; omega) (fun a b => by simp only [Bool.or_eq_true, decide_eq_true_eq]; omega) (zsOf n g)
  intro i j hij hj
  have := List.pairwise_iff_getElem.1 h i j (by show i < (sortL n g).length; omega) hj hij
  rw [getElem!_pos _ i (by show i < (sortL n g).length; omega), getElem!_pos _ j (by simpa using hj)]
  exact of_decide_eq_true this

theorem zs_sortF (n : Nat) (g : Nat → Int) : zsOf n (sortF n g) = sortL n g := by
  apply List.ext_getElem
  · rw [zsOf_len, sortL_len]
  · intro i h1 h2
    simp [zsOf, sortF, List.getD, List.getElem?_eq_getElem h2]

/-- rising, each once -/
structure Rising (k : Nat) (f : Nat → Int) (P : Int → Prop) : Prop where
  lt : ∀ i j, i < j → j < k → f i < f j
  mem : ∀ x, (∃ i, i < k ∧ f i = x) ↔ P x

theorem sorted_rising (n : Nat) (g : Nat → Int) {k : Nat} {f : Nat → Int} (hk : k = cmpN n (sortF n g)) (hf : f = cmpF n (sortF n g)) : Rising k f (fun x => ∃ i, i < n ∧ g i = x) := by
  subst hk hf
  have e : cmpL n (sortF n g) = Lib.compact (sortL n g) := by unfold cmpL; rw [zs_sortF]
  have hp := compact_pairwise (sortL_le (n := n) (g := g))
  have at' : ∀ i (h : i < cmpN n (sortF n g)), cmpF n (sortF n g) i = getElem (Lib.compact (sortL n g)) i (by unfold cmpN at h; rw [e] at h; exact h) := fun i h => by
    unfold cmpN at h; rw [e] at h
    simp [cmpF, e, List.getD, List.getElem?_eq_getElem h]
  have hl : cmpN n (sortF n g) = (Lib.compact (sortL n g)).length := by unfold cmpN; rw [e]
  refine ⟨fun i j hij hj => ?_, fun x => ?_⟩
  · rw [at' i (by omega), at' j hj]
    exact List.pairwise_iff_getElem.1 hp i j _ _ hij
  · rw [show (∃ i, i < n ∧ g i = x) ↔ x ∈ Lib.compact (sortL n g) from by rw [compact_mem, sortL_mem]]
    constructor
    · rintro ⟨i, hi, rfl⟩; rw [at' i hi]; exact List.getElem_mem _
    · intro hx
      obtain ⟨i, hi, rfl⟩ := List.mem_iff_getElem.1 hx
      exact ⟨i, by omega, at' i (by omega)⟩

/-- two such of the same are the same -/
theorem Rising.same {k m : Nat} {f g : Nat → Int} {P Q : Int → Prop} (h : Rising k f P) (h' : Rising m g Q) (e : ∀ x, P x ↔ Q x) : k = m ∧ ∀ i, i < k → f i = g i := by
  -- as far as both go they agree
  have key : ∀ i, i < k → i < m → f i = g i := by
    intro i
    induction i using Nat.strongRecOn with
    | ind i ih =>
      intro hi hm
      obtain ⟨j, j1, j2⟩ := (h'.mem (f i)).2 ((e _).1 ((h.mem _).1 ⟨i, hi, rfl⟩))
      obtain ⟨l, l1, l2⟩ := (h.mem (g i)).2 ((e _).2 ((h'.mem _).1 ⟨i, hm, rfl⟩))
      have hj : ¬ j < i := fun hj => by
        have := ih j hj (by omega) j1
        have := h.lt j i hj hi
        omega
      have hl : ¬ l < i := fun hl => by
        have := ih l hl l1 (by omega)
        have := h'.lt l i hl hm
        omega
      have a1 : g i ≤ f i := by
        rw [← j2]
        by_cases e : i = j
        · rw [e]; exact Int.le_refl _
        · have := h'.lt i j (by omega) j1; omega
      have a2 : f i ≤ g i := by
        rw [← l2]
        by_cases e : i = l
        · rw [e]; exact Int.le_refl _
        · have := h.lt i l (by omega) l1; omega
      omega
  have hkm : k = m := by
    rcases Nat.lt_trichotomy k m with hlt | heq | hgt
    · obtain ⟨l, l1, l2⟩ := (h.mem (g k)).2 ((e _).2 ((h'.mem _).1 ⟨k, hlt, rfl⟩))
      have := key l l1 (by omega)
      have := h'.lt l k l1 hlt
      omega
    · exact heq
    · obtain ⟨l, l1, l2⟩ := (h'.mem (f m)).2 ((e _).1 ((h.mem _).1 ⟨m, hgt, rfl⟩))
      have := key l (by omega) l1
      have := h.lt l m l1 hgt
      omega
  subst hkm
  exact ⟨rfl, fun i hi => key i hi hi⟩

/-- a jump leads there -/
def LeadsP (n : Nat) (g : Nat → SInsn) (x : Int) : Prop := ∃ a, a < n ∧ halfS g a = false ∧ F_jumps (g a) = true ∧ x = (a : Int) + 1 + (g a).off

theorem L_Targets_rising {n0 : Nat} {g : Nat → SInsn} (hn : n0 ≤ 1000) (ho : OffP n0 g) : ∀ (fuel s k : Nat) (f : Nat → Int), s ≤ n0 → n0 < s + fuel → (∀ x, (∃ i, i < k ∧ f i = x) ↔ LeadsP s g x) →
    Rising (L_Targets_0 fuel n0 g (s : Int) k f).1 (L_Targets_0 fuel n0 g (s : Int) k f).2 (LeadsP n0 g) := by
  intro fuel
  induction fuel with
  | zero => intro s k f h1 h2; omega
  | succ fuel ih =>
    intro s k f h1 h2 hm
    have ts : ((s : Int)).toNat = s := rfl
    rw [L_Targets_0, ts]
    by_cases hs : s < n0
    · obtain ⟨o0, o1⟩ := ho s hs
      rw [decide_eq_true (show (s : Int) < (n0 : Int) by omega), cond_true, halves_at (by omega) hs, i64_id (k := (s : Int) + 1) (by omega) (by omega), i64_id (k := (g s).off) (by omega) (by omega), i64_id (k := (s : Int) + 1 + (g s).off) (by omega) (by omega)]
      have grow : ∀ x, LeadsP (s + 1) g x ↔ LeadsP s g x ∨ (halfS g s = false ∧ F_jumps (g s) = true ∧ x = (s : Int) + 1 + (g s).off) := fun x => by
        constructor
        · rintro ⟨a, a1, a2⟩
          by_cases e : a = s
          · subst e; exact .inr a2
          · exact .inl ⟨a, by omega, a2⟩
        · rintro (⟨a, a1, a2⟩ | a)
          · exact ⟨a, by omega, a2⟩
          · exact ⟨s, by omega, a⟩
      have same : ¬ (halfS g s = false ∧ F_jumps (g s) = true) → Rising (L_Targets_0 fuel n0 g ((s : Int) + 1) k f).1 (L_Targets_0 fuel n0 g ((s : Int) + 1) k f).2 (LeadsP n0 g) := fun hne => ih (s + 1) k f (by omega) (by omega) fun x => by
        rw [hm, grow]; exact ⟨.inl, fun h => h.elim id (fun y => absurd ⟨y.1, y.2.1⟩ hne)⟩
      cases hh : halfS g s
      · rw [Bool.not_false, cond_true]
        cases hj : F_jumps (g s)
        · rw [cond_false]; exact same (by rw [hj]; simp)
        · rw [cond_true]
          refine ih (s + 1) (k + 1) _ (by omega) (by omega) fun x => ?_
          rw [grow, ← hm]
          constructor
          · rintro ⟨i, hi, rfl⟩
            rw [catF_at]
            split
            · exact .inl ⟨i, by assumption, rfl⟩
            · have : i = k := by omega
              refine .inr ⟨hh, hj, ?_⟩
              rw [show i - k + 0 = 0 by omega]; rfl
          · rintro (⟨i, hi, rfl⟩ | ⟨_, _, rfl⟩)
            · exact ⟨i, by omega, by rw [catF_at, if_pos hi]⟩
            · exact ⟨k, by omega, by rw [catF_at, if_neg (by omega), show k - k + 0 = 0 by omega]; rfl⟩
      · rw [Bool.not_true, cond_false]; exact same (by rw [hh]; simp)
    · obtain rfl : s = n0 := by omega
      rw [decide_eq_false (show ¬ (s : Int) < (s : Int) by omega), cond_false]
      have hr := sorted_rising k f rfl rfl
      exact ⟨hr.lt, fun x => (hr.mem x).trans (hm x)⟩

theorem Targets_rising {n : Nat} {g : Nat → SInsn} (hk : AllOk n g) (h : Okay n g) : Rising (F_Targets n g).1 (F_Targets n g).2 (LeadsP n g) := by
  have e : F_Targets n g = L_Targets_0 (n + 1) n g 0 0 (fun _ => default) := by
    unfold F_Targets
    rw [h.right hk.off]; rfl
  rw [e]
  exact L_Targets_rising (by have := h.le; omega) hk.off (n + 1) 0 0 _ (by omega) (by omega) fun x => ⟨fun ⟨i, hi, _⟩ => by omega, fun ⟨a, ha, _⟩ => by omega⟩

theorem Targets_in {n : Nat} {g : Nat → SInsn} (hk : AllOk n g) (h : Okay n g) {x : Int} (hx : LeadsP n g x) : ∃ b : Nat, x = (b : Int) ∧ b < n ∧ halfS g b = false := by
  obtain ⟨a, a1, a2, a3, rfl⟩ := hx
  obtain ⟨j1, j2, j3⟩ := h.jump a1 a2 a3
  exact ⟨a + 1 + (g a).off.toNat, by omega, j2, j3⟩

theorem Targets_len {n : Nat} {g : Nat → SInsn} (hk : AllOk n g) (h : Okay n g) : (F_Targets n g).1 ≤ n := by
  have r := Targets_rising hk h
  -- each is at least its place
  have key : ∀ i, i < (F_Targets n g).1 → (i : Int) ≤ (F_Targets n g).2 i := by
    intro i
    induction i with
    | zero =>
      intro hi
      obtain ⟨b, e, _⟩ := Targets_in hk h ((r.mem _).1 ⟨0, hi, rfl⟩)
      omega
    | succ i ih => intro hi; have := ih (by omega); have := r.lt i (i + 1) (by omega) hi; omega
  by_cases h0 : (F_Targets n g).1 = 0
  · omega
  · have h1 := key ((F_Targets n g).1 - 1) (by omega)
    obtain ⟨b, e, h2, _⟩ := Targets_in hk h ((r.mem _).1 ⟨(F_Targets n g).1 - 1, by omega, rfl⟩)
    omega

end Dd
