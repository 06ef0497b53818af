/- The plain law SpanWider. -/
import Derived.Test.YtanopmoiegbjdaaSP8
namespace Dd
open Go Go.RowKit
set_option linter.unusedVariables false
set_option linter.unusedSimpArgs false

def Sb (s t : SSpan) : Prop := t.lo ≤ s.lo ∧ s.hi ≤ t.hi
theorem sb {l h l' h' : Nat} (a : l' ≤ l) (b : h ≤ h') : Sb (nS l h) (nS l' h') := ⟨by show (l' : Int) ≤ (l : Int); omega, by show (h : Int) ≤ (h' : Int); omega⟩
theorem sb_refl (s : SSpan) : Sb s s := ⟨Int.le_refl _, Int.le_refl _⟩
theorem sbA {p q : Prop} [Decidable p] [Decidable q] {s t : SSpan} (hA : Sb (if p then s else F_qAll) F_qAll) (hpq : q → p) (h : q → Sb s t) : Sb (if p then s else F_qAll) (if q then t else F_qAll) := by
  by_cases hq : q
  · rw [if_pos hq, if_pos (hpq hq)]; exact h hq
  · rw [if_neg hq]; exact hA
theorem ones_mono {m n : Nat} (h : m ≤ n) (hn : n < 18446744073709551616) : 2 ^ Lib.bitLen m - 1 ≤ 2 ^ Lib.bitLen n - 1 := by
  have k := bl_lt n hn
  have := pow_mono (bl_le m (Lib.bitLen n) (by omega) (by omega) k.2)
  omega

set_option maxHeartbeats 1000000 in
theorem tail_mono (op : Int) (w : Bool) {al ah bl bh cl ch dl dh : Nat} (h1 : al ≤ ah) (h2 : bl ≤ bh) (k1 : cl ≤ al) (k2 : ah ≤ ch) (k3 : dl ≤ bl) (k4 : bh ≤ dh) (hc : ch < Mw w) (hd : dh < Mw w) :
    Sb (qTail op ((Nw w : Nat) : Int) (nS al ah) (nS bl bh)) (qTail op ((Nw w : Nat) : Int) (nS cl ch) (nS dl dh)) := by
  have hM := Mw_le w
  have hN := Nw_or w
  have g1 : cl ≤ ch := by omega
  have g2 : dl ≤ dh := by omega
  have ha6 : ah < 18446744073709551616 := by omega
  have hb6 : bh < 18446744073709551616 := by omega
  have hc6 : ch < 18446744073709551616 := by omega
  have hd6 : dh < 18446744073709551616 := by omega
  have hA : Sb (qTail op ((Nw w : Nat) : Int) (nS al ah) (nS bl bh)) F_qAll := by
    obtain ⟨r, hr, hrM⟩ := aDo_nat op w (A := al) (B := bl) (by omega) (by omega)
    obtain ⟨l, h, e, e1, e2, _⟩ := tail_holds op w (al := al) (ah := ah) (bl := bl) (bh := bh) (X := al) (Y := bl) ⟨Nat.le_refl _, h1⟩ ⟨Nat.le_refl _, h2⟩ (by omega) (by omega) hr hrM
    rw [e]; exact ⟨by show (0 : Int) ≤ (l : Int); omega, by show (h : Int) ≤ 18446744073709551615; omega⟩
  have down : Sb (if Nw w ≤ bh then nS 0 ah else nS (al / 2 ^ bh) (ah / 2 ^ bl)) (if Nw w ≤ dh then nS 0 ch else nS (cl / 2 ^ dh) (ch / 2 ^ dl)) := by
    by_cases h : Nw w ≤ dh
    · rw [if_pos h]
      by_cases h' : Nw w ≤ bh
      · rw [if_pos h']; exact sb (Nat.le_refl _) k2
      · rw [if_neg h']; exact sb (Nat.zero_le _) (Nat.le_trans (Nat.div_le_self _ _) k2)
    · rw [if_neg h, if_neg (by omega)]
      exact sb (Nat.div_le_div k1 (pow_mono k4) (Nat.ne_of_gt (Nat.two_pow_pos bh))) (Nat.div_le_div k2 (pow_mono k3) (Nat.ne_of_gt (Nat.two_pow_pos dl)))
  by_cases h : op = 0
  · subst h
    rw [q_add _ hN h1 h2 ha6 hb6] at hA ⊢
    rw [q_add _ hN g1 g2 hc6 hd6]
    exact sbA hA (fun h => by omega) (fun _ => sb (by omega) (by omega))
  by_cases h : op = 16
  · subst h
    rw [q_sub _ hN h1 h2 ha6 hb6] at hA ⊢
    rw [q_sub _ hN g1 g2 hc6 hd6]
    exact sbA hA (fun h => by omega) (fun _ => sb (by omega) (by omega))
  by_cases h : op = 32
  · subst h
    rw [q_mul _ hN h1 h2 ha6 hb6] at hA ⊢
    rw [q_mul _ hN g1 g2 hc6 hd6]
    have m1 := Nat.mul_le_mul k1 k3
    have m2 := Nat.mul_le_mul k2 k4
    exact sbA hA (fun h => by omega) (fun _ => sb m1 m2)
  by_cases h : op = 48
  · subst h
    rw [q_div _ hN h1 h2 ha6 hb6, q_div _ hN g1 g2 hc6 hd6]
    by_cases h : 0 < dl
    · rw [if_pos h, if_pos (by omega)]
      exact sb (Nat.div_le_div k1 k4 (by omega)) (Nat.div_le_div k2 k3 (by omega))
    · rw [if_neg h]
      by_cases h' : 0 < bl
      · rw [if_pos h']; exact sb (Nat.zero_le _) (Nat.le_trans (Nat.div_le_self _ _) k2)
      · rw [if_neg h']; exact sb (Nat.le_refl _) k2
  by_cases h : op = 144
  · subst h
    rw [q_mod _ hN h1 h2 ha6 hb6, q_mod _ hN g1 g2 hc6 hd6]
    by_cases h : ch < dl
    · rw [if_pos h, if_pos (by omega)]; exact sb k1 k2
    · rw [if_neg h]
      by_cases h3 : 0 < dl
      · rw [if_pos h3]
        by_cases h4 : ah < bl
        · rw [if_pos h4]; exact sb (Nat.zero_le _) (by omega)
        · rw [if_neg h4, if_pos (by omega)]; exact sb (Nat.zero_le _) (by omega)
      · rw [if_neg h3]
        by_cases h4 : ah < bl
        · rw [if_pos h4]; exact sb (Nat.zero_le _) (by omega)
        · rw [if_neg h4]
          by_cases h5 : 0 < bl
          · rw [if_pos h5]; exact sb (Nat.zero_le _) (by omega)
          · rw [if_neg h5]; exact sb (Nat.zero_le _) (by omega)
  by_cases h : op = 64
  · subst h
    rw [q_or _ hN h1 h2 ha6 hb6, q_or _ hN g1 g2 hc6 hd6]
    exact sb (by omega) (ones_mono (by omega) (by omega))
  by_cases h : op = 80
  · subst h
    rw [q_and _ hN h1 h2 ha6 hb6, q_and _ hN g1 g2 hc6 hd6]
    exact sb (Nat.le_refl _) (by omega)
  by_cases h : op = 160
  · subst h
    rw [q_xor _ hN h1 h2 ha6 hb6, q_xor _ hN g1 g2 hc6 hd6]
    exact sb (Nat.le_refl _) (ones_mono (by omega) (by omega))
  by_cases h : op = 96
  · subst h
    rw [q_lsh _ hN h1 h2 ha6 hb6] at hA ⊢
    rw [q_lsh _ hN g1 g2 hc6 hd6]
    refine sbA hA (fun h => by omega) (fun hq => ?_)
    have e : bl = dl := by omega
    rw [if_pos (by omega)] at hA
    rw [e] at hA ⊢
    have m1 := Nat.mul_le_mul_right (2 ^ (dl % Nw w)) k1
    have m2 := Nat.mul_le_mul_right (2 ^ (dl % Nw w)) k2
    exact sbA hA (fun h => by omega) (fun _ => sb m1 m2)
  by_cases h : op = 112
  · subst h
    rw [q_rsh _ hN h1 h2 ha6 hb6, q_rsh _ hN g1 g2 hc6 hd6]
    exact down
  by_cases h : op = 192
  · subst h
    rw [q_arsh _ hN h1 h2 ha6 hb6] at hA ⊢
    rw [q_arsh _ hN g1 g2 hc6 hd6]
    exact sbA hA (fun h => by omega) (fun _ => down)
  by_cases h : op = 176
  · subst h
    rw [q_mov _ hN h1 h2 ha6 hb6, q_mov _ hN g1 g2 hc6 hd6]
    exact sb k3 k4
  rw [q_else op _ (nS cl ch) (nS dl dh)]; exact hA
  all_goals assumption

theorem do_wider (op : Int) (w : Bool) (a b c d : SSpan) (ha : OkS a) (hb : OkS b) (hc : OkS c) (hd : OkS d) (hac : Sb a c) (hbd : Sb b d) : Sb (F_sDo op w a b) (F_sDo op w c d) := by
  obtain ⟨al, ah, rfl, a1, a2⟩ := nS_of ha
  obtain ⟨bl, bh, rfl, b1, b2⟩ := nS_of hb
  obtain ⟨cl, ch, rfl, c1, c2⟩ := nS_of hc
  obtain ⟨dl, dh, rfl, d1, d2⟩ := nS_of hd
  have hac : cl ≤ al ∧ ah ≤ ch := by unfold Sb at hac; dsimp only at hac; omega
  have hbd : dl ≤ bl ∧ bh ≤ dh := by unfold Sb at hbd; dsimp only at hbd; omega
  have held := fun h => do_holds op w (nS cl ch) (nS dl dh) hc hd (x := al) (y := bl) ⟨by show (cl : Int) ≤ (al : Int); omega, by show (al : Int) ≤ (ch : Int); omega⟩ h
  have held := held ⟨by show (dl : Int) ≤ (bl : Int); omega, by show (bl : Int) ≤ (dh : Int); omega⟩
  obtain ⟨hl, hu, eh, eh1, eh2, eh3⟩ := held
  have hM := Mw_le w
  have hM2 : 2 ≤ Mw w := by cases w <;> decide
  rw [sDo_tail op w _ _ ha hb]
  obtain ⟨al', ah', ea, ka1, ka2, _, _, ka3, ka4⟩ := cut_ok w a1 a2
  obtain ⟨bl', bh', eb, kb1, kb2, _, _, kb3, kb4⟩ := cut_ok w b1 b2
  obtain ⟨cl', ch', ec, kc1, kc2, _, _, kc3, kc4⟩ := cut_ok w c1 c2
  obtain ⟨dl', dh', ed, kd1, kd2, _, _, kd3, kd4⟩ := cut_ok w d1 d2
  have iac : cl' ≤ al' ∧ ah' ≤ ch' := by
    rcases Nat.lt_or_ge ch (Mw w) with k | k
    · have := kc3 k; have := ka3 (by omega); omega
    · have := kc4 (by omega); omega
  have ibd : dl' ≤ bl' ∧ bh' ≤ dh' := by
    rcases Nat.lt_or_ge dh (Mw w) with k | k
    · have := kd3 k; have := kb3 (by omega); omega
    · have := kd4 (by omega); omega
  rw [ea, eb]
  show Sb (bif (F_aDo op w (al' : Int) (bl' : Int)).2 then (bif F_one (nS al' ah') && F_one (nS bl' bh') then F_sOne (F_aDo op w (al' : Int) (bl' : Int)).1 else cutW w (qTail op ((Nw w : Nat) : Int) (nS al' ah') (nS bl' bh'))) else cutW w F_sAll) _
  have one : ∀ l u : Nat, F_one (nS l u) = decide (l = u) := fun l u => by
    show ((l : Int) == (u : Int)) = _
    rw [Bool.eq_iff_iff, beq_iff_eq, decide_eq_true_eq]; omega
  rw [one, one]
  cases ho : (F_aDo op w (al' : Int) (bl' : Int)).2
  · rw [sDo_tail op w _ _ hc hd, ec, ed]
    show Sb _ (bif (F_aDo op w (cl' : Int) (dl' : Int)).2 then _ else cutW w F_sAll)
    rw [ok_same op w (A := cl') (B := dl') (C := al') (D := bl') (by omega) (by omega) (by omega) (by omega), ho]
    exact sb_refl _
  · rw [cond_true]
    by_cases hone : al' = ah' ∧ bl' = bh'
    · rw [decide_eq_true hone.1, decide_eq_true hone.2, Bool.and_self, cond_true]
      have ia : al' = al := by
        rcases Nat.lt_or_ge ah (Mw w) with k | k
        · exact (ka3 k).1
        · have := ka4 (by omega); omega
      have ib : bl' = bl := by
        rcases Nat.lt_or_ge bh (Mw w) with k | k
        · exact (kb3 k).1
        · have := kb4 (by omega); omega
      rw [ia, ib] at ho ⊢
      rw [eh]
      exact eh3 ho
    · have o : (decide (al' = ah') && decide (bl' = bh')) = false := by
        rw [Bool.and_eq_false_iff, decide_eq_false_iff_not, decide_eq_false_iff_not]; omega
      rw [o, cond_false, sDo_tail op w _ _ hc hd, ec, ed]
      show Sb _ (bif (F_aDo op w (cl' : Int) (dl' : Int)).2 then (bif F_one (nS cl' ch') && F_one (nS dl' dh') then _ else cutW w (qTail op ((Nw w : Nat) : Int) (nS cl' ch') (nS dl' dh'))) else cutW w F_sAll)
      have o2 : (decide (cl' = ch') && decide (dl' = dh')) = false := by
        rw [Bool.and_eq_false_iff, decide_eq_false_iff_not, decide_eq_false_iff_not]; omega
      rw [ok_same op w (A := cl') (B := dl') (C := al') (D := bl') (by omega) (by omega) (by omega) (by omega), ho, cond_true, one, one, o2, cond_false]
      have hs := tail_mono op w ka1 kb1 iac.1 iac.2 ibd.1 ibd.2 kc2 kd2
      obtain ⟨r, hr, hrM⟩ := aDo_nat op w (A := al') (B := bl') (by omega) (by omega)
      obtain ⟨l, u, e, e1, e2, _⟩ := tail_holds op w (al := al') (ah := ah') (bl := bl') (bh := bh') (X := al') (Y := bl') ⟨Nat.le_refl _, ka1⟩ ⟨Nat.le_refl _, kb1⟩ (by omega) (by omega) hr hrM
      obtain ⟨l2, u2, f, f1, f2, _⟩ := tail_holds op w (al := cl') (ah := ch') (bl := dl') (bh := dh') (X := al') (Y := bl') ⟨iac.1, by omega⟩ ⟨ibd.1, by omega⟩ (by omega) (by omega) hr hrM
      rw [e, f] at hs ⊢
      have hs : l2 ≤ l ∧ u ≤ u2 := by unfold Sb at hs; dsimp only at hs; omega
      obtain ⟨l', u', q, q1, q2, _, _, q3, q4⟩ := cut_ok w e1 e2
      obtain ⟨l2', u2', p, p1, p2, _, _, p3, p4⟩ := cut_ok w f1 f2
      rw [q, p]
      rcases Nat.lt_or_ge u2 (Mw w) with k | k
      · have := p3 k; have := q3 (by omega); exact sb (by omega) (by omega)
      · have := p4 (by omega); exact sb (by omega) (by omega)

theorem meet_wider {a c : SSpan} {L H L' H' : Int} (hac : Sb a c) (h1 : L' ≤ L) (h2 : H ≤ H') (h : (F_sMeet a ⟨L, H⟩).2 = true) : (F_sMeet c ⟨L', H'⟩).2 = true ∧ Sb (F_sMeet a ⟨L, H⟩).1 (F_sMeet c ⟨L', H'⟩).1 := by
  unfold Sb at hac ⊢
  rcases meetC a ⟨L, H⟩ with ⟨k, e⟩ | ⟨k, e⟩
  · dsimp only at k
    rw [e, meet_some (s := c) (t := ⟨L', H'⟩) (by dsimp only; omega)]
    exact ⟨rfl, by dsimp only; omega⟩
  · rw [e] at h; cases h

set_option maxHeartbeats 1000000 in
theorem where_wider (op : Int) (a b c d : SSpan) (ha : OkS a) (hb : OkS b) (hc : OkS c) (hd : OkS d) (hac : Sb a c) (hbd : Sb b d) (h : (F_sWhere op a b).2 = true) :
    (F_sWhere op c d).2 = true ∧ Sb (F_sWhere op a b).1 (F_sWhere op c d).1 := by
  have hac' := hac
  have hbd' := hbd
  have ha' := ha
  have hb' := hb
  have hc' := hc
  have hd' := hd
  unfold Sb at hac' hbd'
  unfold OkS at ha' hb' hc' hd'
  by_cases h1 : op = 16
  · subst h1; rw [wh16] at h ⊢; rw [wh16]; exact meet_wider (L := b.lo) (H := b.hi) (L' := d.lo) (H' := d.hi) hac hbd'.1 hbd'.2 h
  by_cases h2 : op = 80
  · subst h2
    rcases wh80 a b ha hb with ⟨k, e⟩ | ⟨k1, k2, k3, e⟩ | ⟨k1, k2, k3, e⟩ | ⟨k1, k2, k3, e⟩ | ⟨k1, k2, k3, e⟩ <;> rw [e] at h ⊢ <;>
    rcases wh80 c d hc hd with ⟨q, f⟩ | ⟨q1, q2, q3, f⟩ | ⟨q1, q2, q3, f⟩ | ⟨q1, q2, q3, f⟩ | ⟨q1, q2, q3, f⟩ <;> rw [f] <;> first
      | cases h; done
      | exact ⟨rfl, by unfold Sb; dsimp only; omega⟩
      | (exfalso; omega)
  by_cases h3 : op = 32
  · subst h3; rw [wh32 a b ha hb] at h ⊢; rw [wh32 c d hc hd]; exact meet_wider hac (by omega) (Int.le_refl _) h
  by_cases h4 : op = 48
  · subst h4; rw [wh48 a b] at h ⊢; rw [wh48 c d]; exact meet_wider hac (by omega) (Int.le_refl _) h
  by_cases h5 : op = 160
  · subst h5; rw [wh160 a b ha hb] at h ⊢; rw [wh160 c d hc hd]; exact meet_wider hac (Int.le_refl _) (by omega) h
  by_cases h6 : op = 176
  · subst h6; rw [wh176 a b] at h ⊢; rw [wh176 c d]; exact meet_wider hac (Int.le_refl _) (by omega) h
  rw [wElse op a b h1 h2 h3 h4 h5 h6, wElse op c d h1 h2 h3 h4 h5 h6]; exact ⟨rfl, hac⟩

theorem join_wider (a c : SSpan) : Sb a (F_sJoin c a) := by
  rw [sJoin_eq]; unfold Sb; dsimp only; omega

theorem SpanWider_true (op : Int) (w : Bool) (f g : SFour) (hf : Ok4 f) (hg : Ok4 g) : F_SpanWider op w f g = true := by
  have ha := okL1 hf
  have hb := okL2 hf
  have hc := okJ (okL1 hg) ha
  have hd := okJ (okL2 hg) hb
  have hac := join_wider (F_lspans f).1 (F_lspans g).1
  have hbd := join_wider (F_lspans f).2 (F_lspans g).2
  unfold F_SpanWider
  generalize F_sJoin (F_lspans g).1 (F_lspans f).1 = c at *
  generalize F_sJoin (F_lspans g).2 (F_lspans f).2 = d at *
  generalize (F_lspans f).1 = a at *
  generalize (F_lspans f).2 = b at *
  have p1 := do_wider op w a b c d ha hb hc hd hac hbd
  have p2 := where_wider op a b c d ha hb hc hd hac hbd
  rw [lshown_true, decide_eq_true p1.1, decide_eq_true (show (F_sDo op w c d).hi ≥ (F_sDo op w a b).hi from p1.2)]
  cases h : (F_sWhere op a b).2
  · rfl
  · obtain ⟨q1, q2, q3⟩ := p2 h
    rw [q1, decide_eq_true q2, decide_eq_true (show (F_sWhere op c d).1.hi ≥ (F_sWhere op a b).1.hi from q3)]; rfl
end Dd
