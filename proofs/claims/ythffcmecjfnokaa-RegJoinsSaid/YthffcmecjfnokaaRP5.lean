/- RegCovers, RegThree: what they compute is true. -/
import Derived.Test.YthffcmecjfnokaaRP4
namespace Dd
open Go Go.RowKit Go.Proofs
set_option linter.unusedVariables false
set_option linter.unusedSimpArgs false

theorem made_good (x : SRaw) : Good (F_made x).1 := by
  simp only [F_made, Bool.cond_eq_ite]
  generalize Int.tmod (andI .i64 x.kind 255) 7 = k
  split <;> split <;> split <;> rename_i h1 h2 h3 <;> simp only [beq_iff_eq, decide_eq_true_eq] at h1 h3
  all_goals
    refine ⟨fun h => ?_, fun h => ?_, fun h => ?_⟩
    · first | rfl | exact absurd h1 h
    · first | exact ⟨rfl, rfl⟩ | (simp only at h; rw [h2] at h; cases h)
    · first | rfl | (simp only at h; omega)

theorem state0 (n0 : Nat) (g0 : Nat → SRaw) (n1 : Nat) (g1 : Nat → Bool) : ∀ (n : Nat) (s : Int) (x y : Nat → SReg), 0 ≤ s → s ≤ 11 → 11 < s + n → (∀ i, Good (x i)) → (∀ i, x i = y i) →
    ∃ x' y', L_state_0 n n0 g0 n1 g1 s x y = L_state_1 513 n0 g0 n1 g1 x' y' 0 (fun _ => false) (fun _ => false) ∧ (∀ i, Good (x' i)) ∧ ∀ i, x' i = y' i
  | 0, s, x, y, h0, h1, h2, hg, he => by omega
  | n + 1, s, x, y, h0, h1, h2, hg, he => by
    unfold L_state_0
    by_cases hn : s < (n0 : Int)
    · rw [cond_t (decide_eq_true hn)]
      by_cases hs : s < 11
      · rw [cond_t (decide_eq_true hs), i64_succ s h0 (by omega)]
        refine state0 n0 g0 n1 g1 n (s + 1) _ _ (by omega) (by omega) (by omega) (fun i => ?_) (fun i => ?_)
        · rw [updF_at]; split
          · exact made_good _
          · exact hg i
        · rw [updF_at, updF_at]; split
          · exact (made2 _).symm
          · exact he i
      · rw [cond_f (decide_eq_false hs)]
        exact ⟨x, y, rfl, hg, he⟩
    · rw [cond_f (decide_eq_false hn)]
      exact ⟨x, y, rfl, hg, he⟩
theorem state1 (n0 : Nat) (g0 : Nat → SRaw) (n1 : Nat) (g1 : Nat → Bool) (x y : Nat → SReg) : ∀ (n : Nat) (s : Int) (u v : Nat → Bool), 0 ≤ s → s ≤ 512 → 512 < s + n → (∀ i, u i = v i) →
    ∃ u' v', L_state_1 n n0 g0 n1 g1 x y s u v = (⟨x, u'⟩, ⟨y, v'⟩) ∧ ∀ i, u' i = v' i
  | 0, s, u, v, h0, h1, h2, he => by omega
  | n + 1, s, u, v, h0, h1, h2, he => by
    unfold L_state_1
    by_cases hn : s < (n1 : Int)
    · rw [cond_t (decide_eq_true hn)]
      by_cases hs : s < 512
      · rw [cond_t (decide_eq_true hs), i64_succ s h0 (by omega)]
        refine state1 n0 g0 n1 g1 x y n (s + 1) _ _ (by omega) (by omega) (by omega) (fun i => ?_)
        rw [updF_at, updF_at, he i]
      · rw [cond_f (decide_eq_false hs)]
        exact ⟨u, v, rfl, he⟩
    · rw [cond_f (decide_eq_false hn)]
      exact ⟨u, v, rfl, he⟩
theorem state_at (n0 : Nat) (g0 : Nat → SRaw) (n1 : Nat) (g1 : Nat → Bool) :
    (∀ i, Good ((F_state n0 g0 n1 g1).1.regs i)) ∧ (∀ i, (F_state n0 g0 n1 g1).1.regs i = (F_state n0 g0 n1 g1).2.regs i) ∧ (∀ i, (F_state n0 g0 n1 g1).1.stack i = (F_state n0 g0 n1 g1).2.stack i) := by
  obtain ⟨x, y, e, hg, he⟩ := state0 n0 g0 n1 g1 12 0 (fun _ => zeroR) (fun _ => zeroR) (by omega) (by omega) (by omega) (fun _ => good_zero) (fun _ => rfl)
  obtain ⟨u, v, e', hu⟩ := state1 n0 g0 n1 g1 x y 513 0 (fun _ => false) (fun _ => false) (by omega) (by omega) (by omega) (fun _ => rfl)
  have : F_state n0 g0 n1 g1 = (⟨x, u⟩, ⟨y, v⟩) := by
    rw [← e', ← e]; rfl
  rw [this]
  exact ⟨hg, he, hu⟩

/-- all registers are good -/
def GoodS (a : SState) : Prop := ∀ i, i < 11 → Good (a.regs i)
theorem SameS.refl (a : SState) : SameS a a := ⟨fun _ _ => rfl, fun _ _ => rfl⟩
theorem SameS.symm {a b : SState} (h : SameS a b) : SameS b a := ⟨fun i hi => (h.regs i hi).symm, fun i hi => (h.stack i hi).symm⟩
theorem SameS.trans {a b c : SState} (h : SameS a b) (k : SameS b c) : SameS a c := ⟨fun i hi => (h.regs i hi).trans (k.regs i hi), fun i hi => (h.stack i hi).trans (k.stack i hi)⟩
theorem sj_good {a b : SState} (ha : GoodS a) (hb : GoodS b) : GoodS (F_SJoin a b) := fun i hi => by
  rw [(sjoin_at a b).1 i hi, join_nf (ha i hi) (hb i hi)]; exact good_join (ha i hi) (hb i hi)
theorem sj_comm {a b : SState} (ha : GoodS a) (hb : GoodS b) : SameS (F_SJoin a b) (F_SJoin b a) :=
  ⟨fun i hi => by rw [(sjoin_at a b).1 i hi, (sjoin_at b a).1 i hi, join_nf (ha i hi) (hb i hi), join_nf (hb i hi) (ha i hi), rj_comm],
   fun i hi => by rw [(sjoin_at a b).2 i hi, (sjoin_at b a).2 i hi, Bool.and_comm]⟩
theorem sj_self {a : SState} (ha : GoodS a) : SameS (F_SJoin a a) a :=
  ⟨fun i hi => by rw [(sjoin_at a a).1 i hi, join_nf (ha i hi) (ha i hi), rj_self], fun i hi => by rw [(sjoin_at a a).2 i hi, Bool.and_self]⟩
theorem sj_assoc {a b c : SState} (ha : GoodS a) (hb : GoodS b) (hc : GoodS c) : SameS (F_SJoin (F_SJoin a b) c) (F_SJoin a (F_SJoin b c)) :=
  ⟨fun i hi => by
    have h1 := sj_good ha hb i hi
    have h2 := sj_good hb hc i hi
    rw [(sjoin_at (F_SJoin a b) c).1 i hi, (sjoin_at a (F_SJoin b c)).1 i hi, join_nf h1 (hc i hi), join_nf (ha i hi) h2, (sjoin_at a b).1 i hi, (sjoin_at b c).1 i hi, join_nf (ha i hi) (hb i hi), join_nf (hb i hi) (hc i hi)]
    exact rj_assoc (ha i hi) (hb i hi) (hc i hi),
   fun i hi => by rw [(sjoin_at (F_SJoin a b) c).2 i hi, (sjoin_at a (F_SJoin b c)).2 i hi, (sjoin_at a b).2 i hi, (sjoin_at b c).2 i hi, Bool.and_assoc]⟩
theorem sj_congr {a b c d : SState} (h : SameS a c) (k : SameS b d) : SameS (F_SJoin a b) (F_SJoin c d) :=
  ⟨fun i hi => by rw [(sjoin_at a b).1 i hi, (sjoin_at c d).1 i hi, h.regs i hi, k.regs i hi], fun i hi => by rw [(sjoin_at a b).2 i hi, (sjoin_at c d).2 i hi, h.stack i hi, k.stack i hi]⟩
theorem covers_iff (a b : SState) : F_Covers a b = true ↔ SameS (F_SJoin a b) a := eq53_iff _ _
theorem sj_left {a b : SState} (ha : GoodS a) (hb : GoodS b) : SameS (F_SJoin (F_SJoin a b) a) (F_SJoin a b) :=
  (sj_comm (sj_good ha hb) ha).trans ((sj_assoc ha ha hb).symm.trans (sj_congr (sj_self ha) (.refl b)))
theorem sj_right {a b : SState} (ha : GoodS a) (hb : GoodS b) : SameS (F_SJoin (F_SJoin a b) b) (F_SJoin a b) :=
  (sj_assoc ha hb hb).trans (sj_congr (.refl a) (sj_self hb))
theorem bool_of {b : Bool} {p : Prop} (h : b = true ↔ p) : b = false → ¬ p := fun hb hp => by rw [h.2 hp] at hb; cases hb

theorem RegCovers_true (n0 : Nat) (g0 : Nat → SRaw) (n1 : Nat) (g1 : Nat → SRaw) (n2 : Nat) (g2 : Nat → Bool) (n3 : Nat) (g3 : Nat → Bool) : F_RegCovers n0 g0 n1 g1 n2 g2 n3 g3 = true := by
  unfold F_RegCovers
  have ha : GoodS (F_state n0 g0 n2 g2).1 := fun i _ => (state_at n0 g0 n2 g2).1 i
  have hb : GoodS (F_state n1 g1 n3 g3).1 := fun i _ => (state_at n1 g1 n3 g3).1 i
  generalize (F_state n0 g0 n2 g2).1 = a at ha ⊢
  generalize (F_state n1 g1 n3 g3).1 = b at hb ⊢
  rw [shown_true, cond_true, (covers_iff _ _).2 (sj_left ha hb), cond_true, (covers_iff _ _).2 (sj_right ha hb), cond_true, (eq53_iff _ _).2 (sj_comm ha hb), cond_true, (eq53_iff _ _).2 (sj_right ha hb), cond_true,
    (covers_iff _ _).2 (sj_self ha), cond_true, (eq53_iff _ _).2 (sj_self ha), cond_true]
  cases h1 : F_Covers a b
  · rfl
  cases h2 : F_Covers b a
  · rfl
  have h1 := (covers_iff _ _).1 h1
  have h2 := (covers_iff _ _).1 h2
  exact (eq53_iff _ _).2 (h1.symm.trans ((sj_comm ha hb).trans h2))

theorem RegThree_true (n0 : Nat) (g0 : Nat → SRaw) (n1 : Nat) (g1 : Nat → SRaw) (n2 : Nat) (g2 : Nat → SRaw) (n3 : Nat) (g3 : Nat → Bool) (n4 : Nat) (g4 : Nat → Bool) : F_RegThree n0 g0 n1 g1 n2 g2 n3 g3 n4 g4 = true := by
  unfold F_RegThree
  have ha : GoodS (F_state n0 g0 n3 g3).1 := fun i _ => (state_at n0 g0 n3 g3).1 i
  have hb : GoodS (F_state n1 g1 n4 g4).1 := fun i _ => (state_at n1 g1 n4 g4).1 i
  have hc : GoodS (F_state n2 g2 n3 g3).1 := fun i _ => (state_at n2 g2 n3 g3).1 i
  generalize (F_state n0 g0 n3 g3).1 = a at ha ⊢
  generalize (F_state n1 g1 n4 g4).1 = b at hb ⊢
  generalize (F_state n2 g2 n3 g3).1 = c at hc ⊢
  have hab := sj_good ha hb
  have c3 : SameS (F_SJoin (F_SJoin (F_SJoin a b) c) c) (F_SJoin (F_SJoin a b) c) := sj_right hab hc
  have cab : SameS (F_SJoin (F_SJoin (F_SJoin a b) c) (F_SJoin a b)) (F_SJoin (F_SJoin a b) c) := sj_left hab hc
  have hg := sj_good hab hc
  have c1 : SameS (F_SJoin (F_SJoin (F_SJoin a b) c) a) (F_SJoin (F_SJoin a b) c) :=
    (sj_congr cab.symm (.refl a)).trans ((sj_assoc hg hab ha).trans ((sj_congr (.refl _) (sj_left ha hb)).trans cab))
  have c2 : SameS (F_SJoin (F_SJoin (F_SJoin a b) c) b) (F_SJoin (F_SJoin a b) c) :=
    (sj_congr cab.symm (.refl b)).trans ((sj_assoc hg hab hb).trans ((sj_congr (.refl _) (sj_right ha hb)).trans cab))
  rw [shown_true, cond_true, (eq53_iff _ _).2 (sj_assoc ha hb hc), cond_true, (covers_iff _ _).2 c1, cond_true, (covers_iff _ _).2 c2, cond_true, (covers_iff _ _).2 c3, cond_true]
  cases h1 : F_Covers a b
  · rfl
  cases h2 : F_Covers b c
  · rfl
  have h1 := (covers_iff _ _).1 h1
  have h2 := (covers_iff _ _).1 h2
  exact (covers_iff _ _).2 ((sj_congr h1.symm (.refl c)).trans ((sj_assoc ha hb hc).trans ((sj_congr (.refl a) h2).trans h1)))

end Dd
