/- The plain laws SpanMeets, SpanJoins, SpanWhere. -/
import Derived.Test.YtanopmoiegbjdaaS6
import Derived.Test.YtanopmoiegbjdaaSQ5
namespace Dd
open Go Go.RowKit
set_option linter.unusedVariables false
set_option linter.unusedSimpArgs false
theorem lshown_true : F_lshown = true := by kernel_rfl
theorem rng {a : Int} (w : (Lit.int .u64 a).wf = true) : 0 ≤ a ∧ a < 18446744073709551616 := by
  obtain ⟨A, rfl, h⟩ := nat64 w; omega
theorem ok4 {a b c d : Int} (wa : (Lit.int .u64 a).wf = true) (wb : (Lit.int .u64 b).wf = true) (wc : (Lit.int .u64 c).wf = true) (wd : (Lit.int .u64 d).wf = true) : Ok4 ⟨a, b, c, d⟩ := ⟨rng wa, rng wb, rng wc, rng wd⟩
theorem mn_eq (a b : Int) : mnI a b = min a b := by unfold mnI; split <;> omega
theorem mx_eq (a b : Int) : mxI a b = max a b := by unfold mxI; split <;> omega
theorem condT {c x y : Bool} : ((bif c then x else y) = true) ↔ (c = true → x = true) ∧ (c = false → y = true) := by cases c <;> simp
theorem condT' {c x : Bool} : ((bif c then x else false) = true) ↔ c = true ∧ x = true := by cases c <;> simp
theorem condF' {c x : Bool} : ((bif c then false else x) = true) ↔ c = false ∧ x = true := by cases c <;> simp
theorem veq27 (a b : SSpan) : veqB (v27 a) (v27 b) = decide (a.lo = b.lo ∧ a.hi = b.hi) := by
  simp [v27, veqB, veqsB, Bool.beq_eq_decide_eq]
theorem veq30 (a b : SSpan) : veqB (v30 a) (v30 b) = decide (a.lo = b.lo ∧ a.hi = b.hi) := by
  simp [v30, veqB, veqsB, Bool.beq_eq_decide_eq]
theorem sMeet_eq (s t : SSpan) : F_sMeet s t = (bif decide (max s.lo t.lo ≤ min s.hi t.hi) then (⟨max s.lo t.lo, min s.hi t.hi⟩, true) else (⟨0, 0⟩, false)) := by
  unfold F_sMeet F_sRight
  rw [mn_eq, mx_eq]
  cases decide (max s.lo t.lo ≤ min s.hi t.hi) <;> rfl
theorem meetC (s t : SSpan) : (max s.lo t.lo ≤ min s.hi t.hi ∧ F_sMeet s t = (⟨max s.lo t.lo, min s.hi t.hi⟩, true)) ∨ (min s.hi t.hi < max s.lo t.lo ∧ F_sMeet s t = (⟨0, 0⟩, false)) := by
  rw [sMeet_eq]
  by_cases h : max s.lo t.lo ≤ min s.hi t.hi
  · exact .inl ⟨h, by rw [decide_eq_true h]; rfl⟩
  · exact .inr ⟨by omega, by rw [decide_eq_false h]; rfl⟩
theorem sJoin_eq (s t : SSpan) : F_sJoin s t = ⟨min s.lo t.lo, max s.hi t.hi⟩ := by unfold F_sJoin; rw [mn_eq, mx_eq]
theorem sHas_eq (s : SSpan) (n : Int) : F_sHas s n = decide (s.lo ≤ n ∧ n ≤ s.hi) := by
  unfold F_sHas; rw [Bool.eq_iff_iff]; simp only [condT', decide_eq_true_eq]
theorem qMeet_eq (s t : SSpan) : F_qMeet s t = F_sMeet s t := by
  unfold F_qMeet
  rw [sMeet_eq, mn_eq, mx_eq]
  by_cases h : max s.lo t.lo ≤ min s.hi t.hi
  · rw [decide_eq_true h, decide_eq_false (show ¬ (max s.lo t.lo > min s.hi t.hi) by omega)]; rfl
  · rw [decide_eq_false h, decide_eq_true (show (max s.lo t.lo > min s.hi t.hi) by omega)]; rfl
theorem lof_eq (s : SSpan) : F_lof s = s := rfl

set_option maxHeartbeats 2000000 in
theorem SpanMeets_true (f g : SFour) (hf : Ok4 f) (hg : Ok4 g) : F_SpanMeets f g = true := by
  have ha := okL1 hf
  have hb := okL2 hf
  have hc := okL1 hg
  unfold F_SpanMeets
  generalize (F_lspans f).1 = a at *
  generalize (F_lspans f).2 = b at *
  generalize (F_lspans g).1 = c at *
  obtain ⟨al, ah⟩ := a
  obtain ⟨bl, bh⟩ := b
  obtain ⟨cl, ch⟩ := c
  dsimp only [OkS] at ha hb hc
  rw [lshown_true]
  rcases meetC ⟨al, ah⟩ ⟨bl, bh⟩ with ⟨h1, e1⟩ | ⟨h1, e1⟩ <;> rcases meetC ⟨bl, bh⟩ ⟨al, ah⟩ with ⟨h2, e2⟩ | ⟨h2, e2⟩ <;> dsimp only at h1 h2 <;> try omega
  · rw [e1, e2]
    rcases meetC ⟨bl, bh⟩ ⟨cl, ch⟩ with ⟨h3, e3⟩ | ⟨h3, e3⟩ <;> dsimp only at h3
    · rw [e3]
      rcases meetC ⟨max al bl, min ah bh⟩ ⟨cl, ch⟩ with ⟨h4, e4⟩ | ⟨h4, e4⟩ <;> rcases meetC ⟨al, ah⟩ ⟨max bl cl, min bh ch⟩ with ⟨h5, e5⟩ | ⟨h5, e5⟩ <;> dsimp only at h4 h5 <;> try omega
      · simp only [e4, e5, veq27, sJoin_eq, condT', condF', cond_true, cond_false, beq_self_eq_true, Bool.not_true, Bool.not_false, Bool.not_eq_true', Bool.not_eq_false', decide_eq_true_eq, true_and, and_true]
        refine ⟨?_, ?_, ?_, ?_⟩ <;> omega
      · simp only [e4, e5, veq27, sJoin_eq, condT', condF', cond_true, cond_false, beq_self_eq_true, Bool.not_true, Bool.not_false, Bool.not_eq_true', Bool.not_eq_false', decide_eq_true_eq, true_and, and_true]
        refine ⟨?_, ?_, ?_⟩ <;> omega
    · rw [e3]
      rcases meetC ⟨max al bl, min ah bh⟩ ⟨cl, ch⟩ with ⟨h4, e4⟩ | ⟨h4, e4⟩ <;> dsimp only at h4 <;> try omega
      simp only [e4, veq27, sJoin_eq, condT', condF', cond_true, cond_false, beq_self_eq_true, Bool.not_true, Bool.not_false, Bool.not_eq_true', Bool.not_eq_false', decide_eq_true_eq, true_and, and_true]
      refine ⟨?_, ?_, ?_⟩ <;> omega
  · rw [e1, e2]
    rw [show decide (ah < bl) = !decide (bl ≤ ah) from by simp [← Int.not_le]]
    by_cases k : bl ≤ ah
    · rw [decide_eq_true k, decide_eq_true (show bh < al by omega)]; rfl
    · rw [decide_eq_false k]; rfl

theorem SpanJoins_true (f : SFour) (n : Int) (hf : Ok4 f) (hn : 0 ≤ n ∧ n < 18446744073709551616) : F_SpanJoins f n = true := by
  have ha := okL1 hf
  have hb := okL2 hf
  unfold F_SpanJoins
  generalize (F_lspans f).1 = a at *
  generalize (F_lspans f).2 = b at *
  obtain ⟨al, ah⟩ := a
  obtain ⟨bl, bh⟩ := b
  dsimp only [OkS] at ha hb
  have hm : andI .u64 n 4294967295 = n % 4294967296 := by
    obtain ⟨N, rfl⟩ : ∃ N : Nat, n = (N : Int) := ⟨n.toNat, by omega⟩
    rw [and_m32 N (by omega)]; omega
  have hlow : al ≤ n ∧ n ≤ ah → F_sHas (F_sLow ⟨al, ah⟩) (n % 4294967296) = true := fun h => by
    unfold F_sLow
    rw [sHas_eq]
    by_cases c : ah > 4294967295
    · rw [decide_eq_true c, cond_true, decide_eq_true_eq]; dsimp only; omega
    · rw [decide_eq_false c, cond_false, decide_eq_true_eq]; dsimp only; omega
  rw [lshown_true, hm]
  generalize F_sHas (F_sLow ⟨al, ah⟩) (n % 4294967296) = low at *
  rcases meetC ⟨al, ah⟩ ⟨bl, bh⟩ with ⟨h1, e1⟩ | ⟨h1, e1⟩ <;> dsimp only at h1
  · by_cases k1 : al ≤ n ∧ n ≤ ah
    · rw [hlow k1]
      by_cases k2 : bl ≤ n ∧ n ≤ bh
      · simp [e1, veq27, sJoin_eq, sHas_eq, k1, k2, hlow]
        omega
      · simp [e1, veq27, sJoin_eq, sHas_eq, k1, k2, hlow]
        omega
    · by_cases k2 : bl ≤ n ∧ n ≤ bh
      · simp [e1, veq27, sJoin_eq, sHas_eq, k1, k2, hlow]
        omega
      · simp [e1, veq27, sJoin_eq, sHas_eq, k1, k2, hlow]
        omega
  · by_cases k1 : al ≤ n ∧ n ≤ ah
    · rw [hlow k1]
      by_cases k2 : bl ≤ n ∧ n ≤ bh
      · simp [e1, veq27, sJoin_eq, sHas_eq, k1, k2, hlow]
        omega
      · simp [e1, veq27, sJoin_eq, sHas_eq, k1, k2, hlow]
        omega
    · by_cases k2 : bl ≤ n ∧ n ≤ bh
      · simp [e1, veq27, sJoin_eq, sHas_eq, k1, k2, hlow]
        omega
      · simp [e1, veq27, sJoin_eq, sHas_eq, k1, k2, hlow]
        omega

theorem whereC (op : Int) (a b : SSpan) (ha : OkS a) (hb : OkS b) : F_sWhere op a b = F_qWhere op a b := by
  obtain ⟨al, ah⟩ := a
  obtain ⟨bl, bh⟩ := b
  dsimp only [OkS] at ha hb
  have p : ∀ q : SSpan × Bool, (q.1, q.2) = q := fun _ => rfl
  have cc : ∀ {c : Bool} {x y u v : SSpan × Bool}, x = u → y = v → (bif c then x else y) = bif c then u else v := fun h1 h2 => by rw [h1, h2]
  have c2 : ∀ {c d : Bool} {x y u v : SSpan × Bool}, c = d → x = u → y = v → (bif c then x else y) = bif d then u else v := fun h h1 h2 => by rw [h, h1, h2]
  have sk : ∀ {c : Bool} {x y u : SSpan × Bool}, (c = true → x = u) → (c = false → y = u) → (bif c then x else y) = u := fun {c x y u} h1 h2 => by cases c; exact h2 rfl; exact h1 rfl
  unfold F_sWhere F_qWhere
  simp only [qMeet_eq, p]
  by_cases h : op = 16
  · subst h; rfl
  by_cases h : op = 80
  · subst h
    show (bif !(F_one ⟨bl, bh⟩) then ((⟨al, ah⟩ : SSpan), true) else _) = (bif (bl != bh) then _ else _)
    unfold F_one
    by_cases e : bl = bh
    · subst e
      rw [veq27]
      simp only [beq_self_eq_true, Bool.not_true, bne_self_eq_false, cond_false]
      by_cases e1 : al = bl
      · by_cases e2 : ah = bl
        · subst e1 e2
          simp
        · have : ¬ (al = ah) := by omega
          subst e1
          simp [e2, this, beq_eq_false_iff_ne.2 this]
      · by_cases e2 : ah = bl
        · have : ¬ (al = ah) := by omega
          simp [e1, e2, this, beq_eq_false_iff_ne.2 e1]
        · simp only [beq_eq_false_iff_ne.2 e1, beq_eq_false_iff_ne.2 e2, cond_false, e1, e2, false_and, decide_false]
          cases (al == ah) <;> rfl
    · rw [show (bl != bh) = true from bne_iff_ne.2 e, show (bl == bh) = false from beq_eq_false_iff_ne.2 e]; rfl
  by_cases h : op = 32
  · subst h
    show (bif (IntKind.u64.wrap (bl + 1) == 0) then _ else _) = (bif (bl == 18446744073709551615) then _ else _)
    refine c2 ?_ rfl rfl
    rw [Bool.eq_iff_iff, beq_iff_eq, beq_iff_eq, wrap_u64]; omega
  by_cases h : op = 48
  · subst h; rfl
  by_cases h : op = 160
  · subst h; rfl
  by_cases h : op = 176
  · subst h; rfl
  have n : ∀ k : Int, op ≠ k → (op == k) = false := fun k hk => beq_eq_false_iff_ne.2 hk
  simp only [n 16 (by assumption), n 80 (by assumption), n 32 (by assumption), n 48 (by assumption), n 160 (by assumption), n 176 (by assumption), cond_false]

theorem SpanWhere_true (op : Int) (f : SFour) (n : Int) (hf : Ok4 f) : F_SpanWhere op f n = true := by
  have ha := okL1 hf
  have hb := okL2 hf
  unfold F_SpanWhere
  generalize (F_lspans f).1 = a at *
  generalize (F_lspans f).2 = b at *
  have v : ∀ s : SSpan, veqB (v30 s) (v30 s) = true := fun s => by rw [veq30]; simp
  simp only [lof_eq, lshown_true, whereC op a b ha hb, qMeet_eq, v, cond_true, beq_self_eq_true, sJoin_eq, mn_eq, mx_eq]
  rw [show F_qLow a = F_sLow a from rfl, v]
  have r : F_sRight ⟨f.a, f.b⟩ = decide (f.a ≤ f.b) := rfl
  rw [r, sHas_eq]
  by_cases h : n ≥ a.lo
  · have : a.lo ≤ n := h
    simp [h, this, F_sAll, F_sOne]
  · have : ¬ (a.lo ≤ n) := h
    simp [h, this, F_sAll, F_sOne]
end Dd
