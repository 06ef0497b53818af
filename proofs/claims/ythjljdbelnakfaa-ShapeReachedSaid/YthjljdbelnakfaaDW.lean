/- Rows that are turned in place, or taken over by another block. -/
import Derived.Test.YthjljdbelnakfaaDR
import Derived.Test.YthjljdbelnakfaaDB
namespace Dd
open Go Go.RowKit
set_option linter.unusedVariables false
set_option linter.unusedSimpArgs false

section
variable {P : Program} {ρ : Rho} {H : Heap} {w : World}

/-- a row whose parts are others now -/
theorem turn_step {b : Nat} {t t1 : TypeId} {n : Nat} {f g : Nat → V} {w' : World} {cs' : List Value} (hR : HRel P ρ H w) (hb : nth H b = some (t, .row true n f)) (hν : ρ.ν b = false)
    (hcs : w'.heap[ρ.π b]? = some (.cells cs'.toArray t1 (0, 0))) (hlen : ρ.δ b + ρ.κ b * P.cellsOf t ≤ cs'.length)
    (hrow : ∀ j, j < n → Fit P (g j) t ∧ seg cs' (ρ.δ b + j * P.cellsOf t) (P.cellsOf t) = cl ρ (g j)) (hwf : ∀ j, j < n → Wf P H (g j))
    (hoth : ∀ r, r < w.heap.size → r ≠ ρ.π b → w'.heap[r]? = w.heap[r]?) (hsize : w.heap.size ≤ w'.heap.size) (h1 : w'.os = w.os) (h2 : w'.tape = w.tape) (h3 : w'.output = w.output) :
    Step P ρ H w ρ (setNth H b (t, .row true n g)) w' := by
  have he : Ext H (setNth H b (t, .row true n g)) := Ext.set hb
  obtain ⟨_, _, _, _, _, hn, _, _⟩ := hR.blk b t _ hb hν
  refine ⟨⟨?_, ?_, ?_, ?_, ?_, ?_⟩, he, .refl H ρ, h1, h2, h3, hsize, ?_, ?_⟩
  · intro c tc C hC hνc
    rw [nth_setNth _ _ _ _ _ hb] at hC
    by_cases e : c = b
    · subst e
      rw [if_pos rfl] at hC; cases hC
      exact ⟨cs', t1, (0, 0), hcs, fun _ => rfl, hn, hlen, hrow⟩
    · rw [if_neg e] at hC
      have hold := hR.blk c tc C hC hνc
      have hpi : C.live = true → ρ.π c ≠ ρ.π b := fun hl h => e (hR.inj b c t tc _ C hb hC rfl hl hν hνc h.symm).symm
      cases C with
      | row rw' m g' =>
        obtain ⟨cs1, t2, fr2, hc2, hrest⟩ := hold
        exact ⟨cs1, t2, fr2, by rw [hoth _ (hR.lt c tc _ hC rfl hνc) (hpi rfl)]; exact hc2, hrest⟩
      | mp es =>
        obtain ⟨es', clock, hm, hrest⟩ := hold
        exact ⟨es', clock, by rw [hoth _ (hR.lt c tc _ hC rfl hνc) (hpi rfl)]; exact hm, hrest⟩
      | free => trivial
      | gone => trivial
  · intro c d tc td C D hC hD hm hl hνb hνd hpi
    rw [nth_setNth _ _ _ _ _ hb] at hC hD
    have back : ∀ (z : Nat) (tz : TypeId) (Z : Blk), (if z = b then some (t, Blk.row true n g) else nth H z) = some (tz, Z) → ∃ tz' Z', nth H z = some (tz', Z') ∧ Z'.mut = Z.mut ∧ Z'.live = Z.live := by
      intro z tz Z hz
      by_cases e : z = b
      · subst e; rw [if_pos rfl] at hz; cases hz; exact ⟨t, _, hb, rfl, rfl⟩
      · rw [if_neg e] at hz; exact ⟨tz, Z, hz, rfl, rfl⟩
    obtain ⟨tc', C', hC', m1, l1⟩ := back c tc C hC
    obtain ⟨td', D', hD', m2, l2⟩ := back d td D hD
    exact hR.inj c d tc' td' C' D' hC' hD' (m1.trans hm) (l2.trans hl) hνb hνd hpi
  · intro c tc C hC hl hνc
    rw [nth_setNth _ _ _ _ _ hb] at hC
    by_cases e : c = b
    · subst e; exact Nat.lt_of_lt_of_le (hR.lt c t _ hb rfl hνc) hsize
    · rw [if_neg e] at hC; exact Nat.lt_of_lt_of_le (hR.lt c tc C hC hl hνc) hsize
  · intro c tc C hC hB hνc
    rw [nth_setNth _ _ _ _ _ hb] at hC
    by_cases e : c = b
    · subst e; rw [hν] at hνc; cases hνc
    · rw [if_neg e] at hC; exact hR.nul c tc C hC hB hνc
  · intro c tc rw' m g' hC j hj
    rw [nth_setNth _ _ _ _ _ hb] at hC
    by_cases e : c = b
    · subst e
      rw [if_pos rfl] at hC; cases hC
      exact (hwf j hj).ext he
    · rw [if_neg e] at hC; exact (hR.wf c _ _ _ _ hC j hj).ext he
  · intro c tc es hC e' he'
    rw [nth_setNth _ _ _ _ _ hb] at hC
    by_cases e : c = b
    · subst e; rw [if_pos rfl] at hC; cases hC
    · rw [if_neg e] at hC
      obtain ⟨k1, k2⟩ := hR.wfm c _ _ hC e' he'
      exact ⟨k1.ext he, k2.ext he⟩
  · intro r hr hk
    exact hoth r hr fun h => hk b t _ hb rfl h.symm
  · intro c tc C hC hm
    rw [nth_setNth _ _ _ _ _ hb] at hC
    by_cases e : c = b
    · subst e; exact .inl ⟨c, t, _, hb, rfl, rfl⟩
    · rw [if_neg e] at hC; exact .inl ⟨c, tc, C, hC, hm, rfl⟩

theorem setNth_appD {α : Type} : ∀ (l m : List α) (x y : α), setNth (l ++ x :: m) l.length y = l ++ y :: m
  | [], _, _, _ => rfl
  | a :: l, m, x, y => by simp only [List.cons_append, List.length_cons, setNth, setNth_appD l m x y]

theorem setNth_lenD {α : Type} : ∀ (l : List α) (i : Nat) (x : α), (setNth l i x).length = l.length
  | [], _, _ => rfl
  | a :: l, 0, _ => rfl
  | a :: l, i + 1, x => by simp [setNth, setNth_lenD l i x]

/-- a row without parts, of nobody -/
theorem null_rel {b t0 t : Nat} {f : Nat → V} {π : Nat} (hR : HRel P ρ H w) (hb : nth H b = some (t0, .free)) :
    HRel P ⟨updF ρ.π b π, ρ.κ, ρ.δ, updF ρ.ν b true, updF ρ.ε b (none, 0)⟩ (setNth H b (t, .row true 0 f)) w ∧ Agree H ρ ⟨updF ρ.π b π, ρ.κ, ρ.δ, updF ρ.ν b true, updF ρ.ε b (none, 0)⟩ := by
  have hag : Agree H ρ ⟨updF ρ.π b π, ρ.κ, ρ.δ, updF ρ.ν b true, updF ρ.ε b (none, 0)⟩ := fun c t B hc hB => by
    have hne : c ≠ b := by rintro rfl; rw [hb] at hc; cases hc; exact hB rfl
    simp only [updF_apply, if_neg hne]; exact ⟨trivial, trivial, trivial, trivial, trivial⟩
  have hex := ext_new hb (t, .row true 0 f)
  refine ⟨⟨?_, ?_, ?_, ?_, ?_, ?_⟩, hag⟩
  · intro c tc C hC hν
    rw [nth_setNth _ _ _ _ _ hb] at hC
    by_cases e : c = b
    · subst e; simp [updF_apply] at hν
    · rw [if_neg e] at hC
      have hν : ρ.ν c = false := by simpa only [updF_apply, if_neg e] using hν
      have hold := hR.blk c tc C hC hν
      cases C with
      | row rw' m g =>
        obtain ⟨cs', t2, fr2, hc2, h1, h2, h3, h4⟩ := hold
        refine ⟨cs', t2, fr2, by simpa only [updF_apply, if_neg e] using hc2, h1, h2, h3, fun j hj => ⟨(h4 j hj).1, ?_⟩⟩
        have := conc_agree hag (g j) (hR.wf c _ _ _ _ hC j hj)
        simp only
        rw [(h4 j hj).2]
        simp only [cl] at this ⊢
        rw [this]
      | mp es =>
        obtain ⟨es', clock, hm, hes⟩ := hold
        refine ⟨es', clock, by simpa only [updF_apply, if_neg e] using hm, ?_⟩
        rw [hes]
        apply List.map_congr_left
        intro x hx
        obtain ⟨h1, h2⟩ := hR.wfm c _ _ hC x hx
        rw [conc_agree hag _ h1, conc_agree hag _ h2]
      | free => trivial
      | gone => trivial
  · intro c d tc td C D hC hD hm hl hνb hν hpi
    rw [nth_setNth _ _ _ _ _ hb] at hC hD
    have e : c ≠ b := by rintro rfl; simp [updF_apply] at hνb
    have e' : d ≠ b := by rintro rfl; simp [updF_apply] at hν
    rw [if_neg e] at hC; rw [if_neg e'] at hD
    simp only [updF_apply, if_neg e, if_neg e'] at hνb hν hpi
    exact hR.inj c d tc td C D hC hD hm hl hνb hν hpi
  · intro c tc C hC hl hν
    rw [nth_setNth _ _ _ _ _ hb] at hC
    have e : c ≠ b := by rintro rfl; simp [updF_apply] at hν
    rw [if_neg e] at hC
    simp only [updF_apply, if_neg e] at hν ⊢
    exact hR.lt c tc C hC hl hν
  · intro c tc C hC hB hν
    rw [nth_setNth _ _ _ _ _ hb] at hC
    by_cases e : c = b
    · subst e; rw [if_pos rfl] at hC; cases hC; exact ⟨true, f, rfl, fun _ => by simp [updF_apply]⟩
    · rw [if_neg e] at hC
      simp only [updF_apply, if_neg e] at hν ⊢
      exact hR.nul c tc C hC hB hν
  · intro c tc rw' m g hC j hj
    rw [nth_setNth _ _ _ _ _ hb] at hC
    by_cases e : c = b
    · subst e; rw [if_pos rfl] at hC; cases hC; omega
    · rw [if_neg e] at hC; exact (hR.wf c _ _ _ _ hC j hj).ext hex
  · intro c tc es hC e' he'
    rw [nth_setNth _ _ _ _ _ hb] at hC
    by_cases e : c = b
    · subst e; rw [if_pos rfl] at hC; cases hC
    · rw [if_neg e] at hC
      obtain ⟨k1, k2⟩ := hR.wfm c _ _ hC e' he'
      exact ⟨k1.ext hex, k2.ext hex⟩

/-- a row, or its beginning, is another block's now -/
theorem take_step {b : Nat} {t : TypeId} {n k : Nat} {f : Nat → V} (hR : HRel P ρ H w) (hb : nth H b = some (t, .row true n f)) (hk : k ≤ n) :
    ∃ ρ', Step P ρ H w ρ' (setNth H b (t, .gone) ++ [(t, .row true k f)]) w ∧ Wf P (setNth H b (t, .gone) ++ [(t, .row true k f)]) (slV H.length k t) ∧
      conc ρ' (slV H.length k t) = conc ρ (slV b k t) := by
  have hp := pad_step 1 hR
  have hlb : b < H.length := nth_lt hb
  have hb1 : nth (H ++ pad 1) b = some (t, .row true n f) := by rw [nth_append, if_pos hlb]; exact hb
  have hg := gone_step (t' := t) hp.rel hb1 (w' := w) (fun _ _ => rfl) rfl rfl rfl rfl
  have hs1 := hp.trans hg
  have hf : nth (setNth (H ++ pad 1) b (t, .gone)) H.length = some (0, .free) := by
    rw [nth_setNth _ _ _ _ _ hb1, if_neg (by omega), nth_append, if_neg (by omega), Nat.sub_self]; rfl
  have hset : setNth (setNth (H ++ pad 1) b (t, .gone)) H.length (t, .row true k f) = setNth H b (t, .gone) ++ [(t, .row true k f)] := by
    have : ∀ (l : Heap) (b : Nat) (x y : TypeId × Blk), b < l.length → setNth (l ++ [x]) b y = setNth l b y ++ [x] := by
      intro l
      induction l with
      | nil => intro b x y h; simp at h
      | cons a l ih =>
        intro b x y h
        cases b with
        | zero => rfl
        | succ b => simp only [List.cons_append, setNth, ih b x y (by simpa using h)]
    rw [show pad 1 = [((0 : Nat), Blk.free)] from rfl, this _ _ _ _ hlb]
    have := setNth_appD (setNth H b (t, .gone)) [] (0, .free) (t, .row true k f)
    rw [setNth_lenD] at this; exact this
  have hwf : Wf P (setNth H b (t, .gone) ++ [(t, .row true k f)]) (slV H.length k t) := by rw [← hset]; exact wf_new hf (Nat.le_refl _)
  have hext := hs1.ext.trans (ext_new hf (t, .row true k f))
  rw [hset] at hext
  have hagr : ∀ ρ', Agree (setNth (H ++ pad 1) b (t, .gone)) ρ ρ' → Agree H ρ ρ' := fun ρ' hag c tc C hC hB => by
    have hc1 : nth (H ++ pad 1) c = some (tc, C) := by rw [nth_append, if_pos (nth_lt hC)]; exact hC
    refine hag c (if c = b then t else tc) (if c = b then .gone else C) ?_ ?_
    · rw [nth_setNth _ _ _ _ _ hb1]; split
      · simp
      · rw [hc1]
    · split
      · simp
      · exact hB
  have hne : H.length ≠ b := by omega
  cases hν : ρ.ν b with
  | true =>
    obtain ⟨rwb, fb, hrb, hε⟩ := hR.nul b _ _ hb rfl hν
    cases hrb
    have hε := hε rfl
    obtain rfl : k = 0 := by omega
    obtain ⟨had, hag⟩ := null_rel (t := t) (f := f) (π := ρ.π b) hs1.rel hf
    rw [hset] at had
    refine ⟨_, ⟨had, hext, hagr _ hag, rfl, rfl, rfl, Nat.le_refl _, fun _ _ _ => rfl, ?_⟩, hwf, ?_⟩
    · intro d td D hD hm
      rw [← hset, nth_setNth _ _ _ _ _ hf] at hD
      by_cases e : d = H.length
      · subst e; exact .inl ⟨b, t, _, hb, rfl, by simp only [updF_apply, if_pos]⟩
      · rw [if_neg e] at hD
        rcases hs1.new d td D hD hm with ⟨c', tc', C', h1, h2, h3⟩ | h
        · exact .inl ⟨c', tc', C', h1, h2, by simp only [updF_apply, if_neg e]; exact h3⟩
        · right; simp only [updF_apply, if_neg e]; exact h
    · simp [slV, conc, updF_apply, hν, hε]
  | false =>
    obtain ⟨cs, t1, fr, hcs, hfr, hnk, hlen, hrow⟩ := hR.blk b _ _ hb hν
    obtain rfl := hfr rfl
    obtain ⟨had, hag⟩ := adopt_rel (P := P) (ρ := ρ) (w := w) (t := t) (n := k) (π := ρ.π b) (κ := ρ.κ b) (δ := ρ.δ b) (f := f) hs1.rel hf (fun j hj => ⟨(hrow j (by omega)).1, (hR.wf b _ _ _ _ hb j (by omega)).ext hs1.ext⟩) (by omega) hcs (fun d td D hD hl hνd hpi => by
        rw [nth_setNth _ _ _ _ _ hb1] at hD
        by_cases e : d = b
        · subst e; rw [if_pos rfl] at hD; cases hD; cases hl
        · rw [if_neg e] at hD
          exact e (hp.rel.inj b d _ td _ D hb1 hD rfl hl hν hνd hpi.symm).symm) hlen (fun j hj => (hrow j (by omega)).2)
    rw [hset] at had
    refine ⟨_, ⟨had, hext, hagr _ hag, rfl, rfl, rfl, Nat.le_refl _, fun _ _ _ => rfl, ?_⟩, hwf, ?_⟩
    · intro d td D hD hm
      rw [← hset, nth_setNth _ _ _ _ _ hf] at hD
      by_cases e : d = H.length
      · subst e; exact .inl ⟨b, t, _, hb, rfl, by simp only [updF_apply, if_pos]⟩
      · rw [if_neg e] at hD
        rcases hs1.new d td D hD hm with ⟨c', tc', C', h1, h2, h3⟩ | h
        · exact .inl ⟨c', tc', C', h1, h2, by simp only [updF_apply, if_neg e]; exact h3⟩
        · right; simp only [updF_apply, if_neg e]; exact h
    · simp [slV, conc, updF_apply, hν]

end
end Dd
